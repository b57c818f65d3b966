/- What (*Failure).Error and fail.Name tell: contracts of the calls. Conditions: those that each contract names. -/
import Derived.Test.YtogkhpceahdaeaaDoorFailCode
import Derived.Test.YtogkhpceahdaeaaDoorPFailWrapsx1
namespace Go.Proofs.YtogkhpceahdaeaaDoor.Fail
open Go.RowKit Go.Extern.Stop Go.Stop Go.Extern
set_option linter.unusedVariables false
set_option linter.unusedSimpArgs false

theorem name_some (c : Int) : ∃ r, PFailWraps.fail_Name.f c = some r := by
  unfold PFailWraps.fail_Name.f
  simp only [Option.bind_some]
  split
  · exact ⟨_, rfl⟩
  · split
    · exact ⟨_, rfl⟩
    · rw [if_pos (by omega), if_pos (by omega)]; exact ⟨_, rfl⟩
/-- A code's name. -/
def nameOf (c : Int) : ByteArray := (PFailWraps.fail_Name.f c).getD ⟨#[]⟩
theorem name_any (W : World) (c : Int) : Calls Tryd.prog 9 #[.int .i64 c] W fun e w' => e = .returned (.string (nameOf c)) ∧ Below W.heap.size W w' := by
  obtain ⟨r, hr⟩ := name_some c
  have : nameOf c = r := by simp [nameOf, hr]
  rw [this]
  exact PFailWraps.fail_Name.calls c r W hr

def colon : ByteArray := ⟨#[58, 32]⟩
/-- What goes ahead of an error's words. -/
def opW (op : ByteArray) : ByteArray := if op.toList.isEmpty then ⟨#[]⟩ else op ++ colon
/-- The words of a chain. -/
def wordsOf : List (ByteArray × Int) → ByteArray
  | [] => ⟨#[]⟩
  | (op, c) :: l => opW op ++ (if l.isEmpty then nameOf c else wordsOf l)
theorem methodError (v : Value) (w : World) : (Go.method 212 26 v "Error").run Tryd.prog w = .ok (13, v) w := by kernel_rfl

theorem Error_none (W : World) : Calls Tryd.prog 13 #[.pointer none] W fun e w' => e = .returned (.string ⟨#[]⟩) ∧ W = w' := by
  go_enter Tryd.func13, Tryd.ntmps13
  go_wp2
  go_ret
  exact ⟨rfl, rfl⟩
theorem name_size (c : Int) : (nameOf c).size ≤ 7 := by
  by_cases h0 : c < 0
  · have : nameOf c = ⟨#[101, 114, 114, 111, 114]⟩ := by unfold nameOf PFailWraps.fail_Name.f; simp only [Option.bind_some, if_pos h0]; rfl
    rw [this]; decide
  · by_cases h1 : c ≥ 24
    · have : nameOf c = ⟨#[101, 114, 114, 111, 114]⟩ := by unfold nameOf PFailWraps.fail_Name.f; simp only [Option.bind_some, if_neg h0, List.length_cons, List.length_nil]; rw [if_pos (by omega)]; rfl
      rw [this]; decide
    · have h := (by decide +kernel : ∀ n : Fin 24, (nameOf (n.val : Int)).size ≤ 7) ⟨c.toNat, by omega⟩
      rwa [show ((c.toNat : Nat) : Int) = c from by omega] at h
theorem Error_one (W : World) (b : Nat) (op : ByteArray) (c : Int) (hop : op.size ≤ 100) (hb : W.heap[b]? = some (failure op c .nilIface)) :
    Calls Tryd.prog 13 #[ref b] W fun e w' => e = .returned (.string (opW op ++ nameOf c)) ∧ Below W.heap.size W w' := by
  obtain ⟨h0, h1, h2⟩ := fcells hb
  clear hb
  have hn := name_size c
  by_cases ho : op.toList.isEmpty = true
  · have hf : opW op = ⟨#[]⟩ := by simp [opW, ho]
    have hf := Lib.hid hf
    have ho2 : op.toList = [] := by simpa using ho
    have hs : ¬ 9223372036854775807 < (nameOf c).size := by omega
    go_enter Tryd.func13, Tryd.ntmps13
    go_wp2_with ((go_at_call 9; refine (name_any _ c).mono ?_; rintro e w1 ⟨rfl, hb1⟩))
    go_ret
    exact ⟨by rw [hf.out]; rfl, hb1⟩
  · have ho1 := Bool.eq_false_iff.mpr ho
    have hf : opW op = op ++ colon := by simp [opW, ho1]
    have hf := Lib.hid hf
    have ho2 : (op.toList == ([] : List UInt8)) = false := by cases h : op.toList <;> simp [h] at ho1 ⊢
    clear ho
    go_enter Tryd.func13, Tryd.ntmps13
    go_wp2_with ((go_at_call 9; refine (name_any _ c).mono ?_; rintro e w1 ⟨rfl, hb1⟩))
    go_ret
    exact ⟨by rw [hf.out]; rfl, hb1⟩
theorem opW_size (op : ByteArray) : (opW op).size ≤ op.size + 2 := by
  unfold opW
  split
  · exact Nat.zero_le _
  · rw [ByteArray.size_append]; exact Nat.le_refl _
theorem words_size (l : List (ByteArray × Int)) (h : ∀ x ∈ l, x.1.size ≤ 100) : (wordsOf l).size ≤ 102 * l.length + 7 := by
  induction l with
  | nil => exact Nat.zero_le _
  | cons x l ih =>
    obtain ⟨op, c⟩ := x
    have h1 := opW_size op
    have h2 := h (op, c) (List.mem_cons_self ..)
    have h3 := name_size c
    have h4 := ih fun x hx => h x (List.mem_cons_of_mem _ hx)
    simp only [wordsOf, ByteArray.size_append, List.length_cons]
    have h5 : (if l.isEmpty = true then nameOf c else wordsOf l).size ≤ 102 * l.length + 7 := by split <;> omega
    dsimp only at h2
    omega
theorem Error_on (W : World) (b b2 : Nat) (op words : ByteArray) (c : Int) (hop : op.size ≤ 100) (hw : words.size ≤ 100000) (hb : W.heap[b]? = some (failure op c (err b2)))
    (IH : ∀ W', Below W.heap.size W W' → Calls Tryd.prog 13 #[ref b2] W' fun e w' => e = .returned (.string words) ∧ Below W'.heap.size W' w') :
    Calls Tryd.prog 13 #[ref b] W fun e w' => e = .returned (.string (opW op ++ words)) ∧ Below W.heap.size W w' := by
  obtain ⟨h0, h1, h2⟩ := fcells hb
  have mE := methodError
  have HI := IH W (Below.refl _ _)
  clear hb IH
  by_cases ho : op.toList.isEmpty = true
  · have hf : opW op = ⟨#[]⟩ := by simp [opW, ho]
    have hf := Lib.hid hf
    have ho2 : op.toList = [] := by simpa using ho
    go_enter Tryd.func13, Tryd.ntmps13
    go_wp2_with ((go_at_call 13; refine HI.mono ?_; rintro e w1 ⟨rfl, hb1⟩))
    go_ret
    exact ⟨by rw [hf.out]; rfl, hb1⟩
  · have ho1 := Bool.eq_false_iff.mpr ho
    have hf : opW op = op ++ colon := by simp [opW, ho1]
    have hf := Lib.hid hf
    have ho2 : (op.toList == ([] : List UInt8)) = false := by cases h : op.toList <;> simp [h] at ho1 ⊢
    clear ho
    go_enter Tryd.func13, Tryd.ntmps13
    go_wp2_with ((go_at_call 13; refine HI.mono ?_; rintro e w1 ⟨rfl, hb1⟩))
    go_ret
    exact ⟨by rw [hf.out]; rfl, hb1⟩
theorem Error_chain (l : List (ByteArray × Int)) : ∀ (W : World) (B b : Nat), (∀ x ∈ l, x.1.size ≤ 100) → l.length ≤ 100 → B ≤ W.heap.size → Chain W B (err b) l →
    Calls Tryd.prog 13 #[ref b] W fun e w' => e = .returned (.string (wordsOf l)) ∧ Below W.heap.size W w' := by
  induction l with
  | nil => intro W B b _ _ _ h; cases h
  | cons x l ih =>
    obtain ⟨op, c⟩ := x
    intro W B b hs hl hB h
    obtain ⟨E, hc, hbB, h1⟩ := h.top
    have hop := hs (op, c) (List.mem_cons_self ..)
    cases h1 with
    | nil => exact Error_one W b op c hop hc
    | node b2 op2 c2 E2 l2 hb2 hcell2 h2 =>
      have hs2 : ∀ x ∈ (op2, c2) :: l2, x.1.size ≤ 100 := fun x hx => hs x (List.mem_cons_of_mem _ hx)
      have hw := words_size _ hs2
      simp only [List.length_cons] at hl hw
      exact Error_on W b b2 op (wordsOf ((op2, c2) :: l2)) c hop (by omega) hc fun W' hb => ih W' B b2 hs2 (by simp only [List.length_cons]; omega) (Nat.le_trans hB hb.size) ((Chain.node b2 op2 c2 E2 l2 hb2 hcell2 h2).under hb hB)
end Go.Proofs.YtogkhpceahdaeaaDoor.Fail
