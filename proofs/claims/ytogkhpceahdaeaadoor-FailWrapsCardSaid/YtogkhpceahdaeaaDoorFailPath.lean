/- By which ways an error of failures came: what fail.Path answers: contracts of the calls. Conditions: those that each contract names. -/
import Derived.Test.YtogkhpceahdaeaaDoorFailHas
import Derived.Test.YtogkhpceahdaeaaDoorWMore
namespace Go.Proofs.YtogkhpceahdaeaaDoor.Fail
open Go.RowKit Go.Extern.Stop Go.Stop Go.Extern Go.Proofs.YtogkhpceahdaeaaDoorW.PrintWords Go.Proofs.YtogkhpceahdaeaaDoorW.PrintLast Go.Proofs.YtogkhpceahdaeaaDoorW.PrintMore
set_option linter.unusedVariables false
set_option linter.unusedSimpArgs false

/-- The ways that are told. -/
def opsL : List (ByteArray × Int) → List ByteArray
  | [] => []
  | x :: l => if x.1.toList.isEmpty then opsL l else x.1 :: opsL l
theorem opsL_le (l : List (ByteArray × Int)) : (opsL l).length ≤ l.length := by
  induction l with
  | nil => exact Nat.le_refl _
  | cons x l ih => unfold opsL; split <;> simp <;> omega

theorem errUnwrap_some (w : World) (b : Nat) (op : ByteArray) (c : Int) (E : Value) (hb : w.heap[b]? = some (failure op c E)) :
    Calls Tryd.prog 20 #[err b] w fun e w' => e = .returned E ∧ w = w' := by
  have nU := hasUnwrapF
  have mU := methodUnwrap
  have HU := unwrap_some w b op c E hb
  clear hb
  go_enter Tryd.func20, Tryd.ntmps20
  go_wp2_with ((go_at_call 14; refine HU.mono ?_; rintro e w' ⟨rfl, rfl⟩))
  go_ret
  exact ⟨rfl, rfl⟩

theorem infoStr : (Tryd.prog.info? 9).map (fun i => (i.zero, i.size, i.bytes)) = some (some (.string ⟨#[]⟩), 1, 16) := by kernel_rfl

theorem Path_chain (W : World) (B : Nat) (hB : B ≤ W.heap.size) (E : Value) (l : List (ByteArray × Int)) (hl : l.length ≤ 100) (hch : Chain W B E l) :
    Calls Tryd.prog 24 #[E] W fun e w' => ∃ v : Value, e = .returned v ∧ Kd.R Kd.string 9 w' W.heap.size (fun _ => True) v (opsL l) ∧ Below W.heap.size W w' := by
  have ha := asF
  go_enter Tryd.func24, Tryd.ntmps24
  go_wp2
  go_loopw [0, 3] (fun E' v wl => ∃ (l' : List (ByteArray × Int)) (pre : List ByteArray), Aside0 (Chain W B E' l') ∧ Aside0 (opsL l = pre ++ opsL l' ∧ pre.length + l'.length ≤ 100) ∧ Aside0 (Kd.R Kd.string 9 wl W.heap.size (fun _ => True) v pre) ∧ Aside0 (Below W.heap.size W wl)) (fun E' _ _ => chainLen W B E')
  case atStart => exact ⟨l, [], ⟨hch⟩, ⟨rfl, by simpa using hl⟩, ⟨Kd.R_nil _ _ _ _ _⟩, ⟨Below.refl _ _⟩⟩
  case round =>
    obtain ⟨l', pre, HC, HE, HO, HB⟩ := hrel
    have hc' := HC.out
    cases hc' with
    | nil =>
      have he := HE.out
      obtain ⟨Ao, co, eo⟩ := Kd.R_slice HO.out
      subst eo
      have hfin : opsL l = pre := by simpa [opsL] using he.1
      have hfin := Lib.hid hfin
      clear he
      go_wp2
      go_ret
      refine ⟨_, rfl, ?_, HB.out⟩
      rw [hfin.out]; exact HO.out
    | node b op c E1 l1 hb hcell h1 =>
      have hcl : wr.heap[b]? = some (failure op c E1) := (HB.out.block b (Nat.lt_of_lt_of_le hb hB)).trans hcell
      obtain ⟨hb0, hb1, hb2⟩ := fcells hcl
      have HU := errUnwrap_some wr b op c E1 hcl
      have hlen := chainLen_eq h1
      have hlen0 := chainLen_eq (Chain.node b op c E1 l1 hb hcell h1)
      have HCn := Aside0.mk h1
      have hm := Aside0.mk (show chainLen W B E1 < chainLen W B (err b) by rw [hlen, hlen0]; simp)
      have hcW := Lib.hid hcell
      clear hlen hlen0 hcl hb1 hb2 hcell h1 HC
      by_cases ho : op.toList.isEmpty = true
      · have HE2 := Aside0.mk (show opsL l = pre ++ opsL l1 ∧ pre.length + l1.length ≤ 100 from ⟨HE.out.1.trans (by simp [opsL, ho]), by have := HE.out.2; simp at this; omega⟩)
        have ho2 : op.toList = [] := by simpa using ho
        go_wp2_with ((go_at_call 20; refine HU.mono ?_; rintro e w' ⟨rfl, rfl⟩))
        go_roundw
        case rel => exact ⟨l1, pre, HCn, HE2, HO, HB⟩
        case measure => exact hm.out
      · have ho1 := Bool.eq_false_iff.mpr ho
        have HE2 := Aside0.mk (show opsL l = (pre ++ [op]) ++ opsL l1 ∧ (pre ++ [op]).length + l1.length ≤ 100 from ⟨HE.out.1.trans (by simp [opsL, ho1]), by have := HE.out.2; simp at this ⊢; omega⟩)
        have ho2 : (op.toList == ([] : List UInt8)) = false := by cases h : op.toList <;> simp [h] at ho1 ⊢
        have ho3 : (!op.toList.isEmpty) = true := by rw [ho1]; rfl
        have hlen := Aside0.mk (show (pre.length + 1) * 16 ≤ 140737488355328 by have := HE.out.2; simp at this; omega)
        clear ho
        go_wp2_with (first | ((with_reducible refine gate_builtin (b := .append) (xs := #[(.tmp 27), (.tmp 32)]) rfl ?_); at_builtin; refine Kd.R_append Kd.string (w0 := W) W.heap.size rfl (.tmp 27) (.tmp 32) 44 9 (.string ⟨#[]⟩) 16 rfl Tryd.underlying44 infoStr rfl (by decide) (by decide) _ pre op [.string op] (fun _ => True) (fun _ => False) rfl rfl ?aP (fun _ hk => hk.elim) (fun _ _ => trivial) HO.out HB.out HB.out.size hlen.out ?_; (case aP => exact rfl); intro v1 w1 hv hw hg hat; have HO1 := Aside0.mk hv; have HB1 := Aside0.mk hw; clear hv hw hat; have HU1 := errUnwrap_some w1 b op c E1 ((HB1.out.block b (Nat.lt_of_lt_of_le hb hB)).trans hcW.out); clear hg) | (go_at_call 20; refine HU1.mono ?_; rintro e w' ⟨rfl, rfl⟩))
        go_roundw
        case rel => exact ⟨l1, pre ++ [op], HCn, HE2, HO1, HB1⟩
        case measure => exact hm.out
end Go.Proofs.YtogkhpceahdaeaaDoor.Fail
