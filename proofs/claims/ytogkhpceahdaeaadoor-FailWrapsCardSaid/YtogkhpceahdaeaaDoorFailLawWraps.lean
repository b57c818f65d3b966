/- The law FailWraps answers true: the walk. Conditions: that errors.errorType is laid. -/
import Derived.Test.YtogkhpceahdaeaaDoorFailWrap
import Derived.Test.YtogkhpceahdaeaaDoorFailPath
namespace Go.Proofs.YtogkhpceahdaeaaDoor.Fail
open Go.RowKit Go.Extern.Stop Go.Stop Go.Extern Go.Proofs.YtogkhpceahdaeaaDoorW.PrintWords Go.Proofs.YtogkhpceahdaeaaDoorW.PrintLast Go.Proofs.YtogkhpceahdaeaaDoorW.PrintMore
set_option linter.unusedVariables false
set_option linter.unusedSimpArgs false

theorem empty_app (x : ByteArray) : (⟨#[]⟩ : ByteArray) ++ x = x := ByteArray.empty_append
theorem words0 (c : Int) : wordsOf [(⟨#[]⟩, c)] = nameOf c := by
  have h : opW ⟨#[]⟩ = ⟨#[]⟩ := by decide +kernel
  simp [wordsOf, h, empty_app]
theorem ops0 (c : Int) : opsL [(⟨#[]⟩, c)] = [] := by
  have h : (⟨#[]⟩ : ByteArray).toList.isEmpty = true := by decide +kernel
  simp [opsL, h]
theorem words_skip (op : ByteArray) (c : Int) (ch : List (ByteArray × Int)) (h : ch ≠ []) (ho : op.toList.isEmpty = true) : wordsOf ((op, c) :: ch) = wordsOf ch := by
  cases ch with
  | nil => exact absurd rfl h
  | cons x l => rw [wordsOf]; simp [opW, ho, empty_app]
theorem words_step (op : ByteArray) (c : Int) (ch : List (ByteArray × Int)) (h : ch ≠ []) (ho : op.toList.isEmpty = false) : wordsOf ((op, c) :: ch) = op ++ ⟨#[58, 32]⟩ ++ wordsOf ch := by
  cases ch with
  | nil => exact absurd rfl h
  | cons x l => rw [wordsOf]; simp [opW, ho, colon]
theorem has_all (c : Int) (hc : c ≠ 0) (ch : List (ByteArray × Int)) (h : ch ≠ []) (ha : ∀ x ∈ ch, x.2 = c) : hasB c ch = true ∧ (ch.any fun x => c == x.2) = true := by
  cases ch with
  | nil => exact absurd rfl h
  | cons x l =>
    have hx := ha x (List.mem_cons_self ..)
    simp [hasB, hc, hx]
theorem same_l0 (l : List ByteArray) (hl : l.length ≤ 100) (d : Nat) : ∀ i : Nat, l.length - i = d → PFailWraps.bywashbook_SameTexts.l0 (d + 1) l l (i : Int) = some true := by
  induction d with
  | zero =>
    intro i hd
    simp only [PFailWraps.bywashbook_SameTexts.l0]
    rw [if_neg (by omega)]
  | succ d ih =>
    intro i hd
    rw [PFailWraps.bywashbook_SameTexts.l0]
    rw [if_pos (by omega), if_pos (by omega), if_pos (by omega), if_pos rfl, show wrap64 ((i : Int) + 1) = ((i + 1 : Nat) : Int) from by unfold wrap64; omega]
    exact ih (i + 1) (by omega)
theorem same_texts (l : List ByteArray) (hl : l.length ≤ 100) : PFailWraps.bywashbook_SameTexts.f (l.length + 1) l l = some true := by
  unfold PFailWraps.bywashbook_SameTexts.f
  rw [if_pos rfl]
  exact same_l0 l hl l.length 0 rfl
theorem Is_code (W : World) (B : Nat) (hB : B ≤ W.heap.size) (c : Int) (hc : c ≠ 0) (b : Nat) (l : List (ByteArray × Int)) (hch : Chain W B (err b) l) :
    Calls Tryd.prog 22 #[err b, err W.heap.size] (W.alloc (failure ⟨#[]⟩ c .nilIface)) fun e w' => e = .returned (.bool (l.any fun x => c == x.2)) ∧ Below W.heap.size W w' :=
  (Is_chain (W.alloc (failure ⟨#[]⟩ c .nilIface)) B W.heap.size c hc hB (heap_new W _) b l (hch.under (below_new W _) hB)).mono fun e w' h => ⟨h.1, by obtain ⟨n, rfl⟩ := h.2; exact below_drewN (below_new W _) n⟩
theorem Code_all (W : World) (hL : Laid W) (B b : Nat) (c : Int) (ch : List (ByteArray × Int)) (hne : ch ≠ []) (ha : ∀ x ∈ ch, x.2 = c) (h : Chain W B (err b) ch) : Calls Tryd.prog 18 #[err b] W fun e w' => e = .returned (.int .i64 c) ∧ Below W.heap.size W w' := by
  cases ch with
  | nil => exact absurd rfl hne
  | cons x l =>
    obtain ⟨op, c1⟩ := x
    obtain rfl : c1 = c := ha (op, c1) (List.mem_cons_self ..)
    exact Code_chain W hL B b op c1 l h
theorem Wrap_all (W : World) (hL : Laid W) (b : Nat) (op : ByteArray) (c : Int) (ch : List (ByteArray × Int)) (hne : ch ≠ []) (ha : ∀ x ∈ ch, x.2 = c) (h : Chain W W.heap.size (err b) ch) : Calls Tryd.prog 19 #[.string op, err b] W fun e w' => ∃ b', e = .returned (err b') ∧ Chain w' w'.heap.size (err b') ((op, c) :: ch) ∧ Below W.heap.size W w' := by
  cases ch with
  | nil => exact absurd rfl hne
  | cons x l =>
    obtain ⟨op1, c1⟩ := x
    obtain rfl : c1 = c := ha (op1, c1) (List.mem_cons_self ..)
    exact Wrap_err W hL b op op1 c1 l h
theorem cell_lt {W : World} {a : Addr} {v : Value} (h : W.cell? a = some v) : a.block < W.heap.size := by
  rcases Nat.lt_or_ge a.block W.heap.size with h1 | h1
  · exact h1
  · simp [World.cell?, Array.getElem?_eq_none h1] at h
theorem lit_row (W w : World) (op : ByteArray) (h : W.heap.size ≤ w.heap.size) : Kd.R Kd.string 9 (w.alloc (.cells #[.string op] 9)) W.heap.size (fun _ => True) (.slice (some ⟨w.heap.size, 0, none⟩) 1 1) [op] :=
  Kd.R_of_own (World.ownsRow_lit (size := 1) w #[.string op] 1 h (by decide) rfl) (fun _ _ => trivial)
theorem opsL_bound (ch : List (ByteArray × Int)) (i : Nat) (h : ch.length = i + 1) (hi : i ≤ 20) {op : ByteArray} : ([op].length + (opsL ch).length) * 16 ≤ 140737488355328 := by
  have := opsL_le ch
  simp only [List.length_cons, List.length_nil]
  omega
theorem chain_grown {w w1 : World} {o : Obj} {b : Nat} {ch : List (ByteArray × Int)} (h : Chain w w.heap.size (err b) ch) (hg : (w.alloc o).grownBy w1 (Value.ownBlock (.slice (some ⟨w.heap.size, 0, none⟩) 1 1))) : Chain w1 w1.heap.size (err b) ch :=
  (h.heap fun k hk => (hg.block k (by rw [sizeA]; omega) (fun e => by simp [Value.ownBlock] at e; omega)).trans (heap_old w o k hk)).up (by have := hg.size; rw [sizeA] at this; omega)
/-- What a round knows. -/
structure Inv (W : World) (c : Int) (l : List ByteArray) (i b : Nat) (ch : List (ByteArray × Int)) (vP : Value) (wl : World) : Prop where
  le : i ≤ l.length
  chain : Chain wl wl.heap.size (err b) ch
  len : ch.length = i + 1
  all : ∀ x ∈ ch, x.1.size ≤ 30 ∧ x.2 = c
  path : Kd.R Kd.string 9 wl W.heap.size (fun _ => True) vP (opsL ch)
  below : Below W.heap.size W wl
theorem inv_skip {W : World} {c : Int} {l : List ByteArray} {i b b4 : Nat} {ch : List (ByteArray × Int)} {vP : Value} {wr w4 : World} {op : ByteArray} (HI : Inv W c l i b ch vP wr) (hi : (i : Int) < (l.length : Int)) (hs : op.size ≤ 30) (ho : op.toList.isEmpty = true) (hch : Chain w4 w4.heap.size (err b4) ((op, c) :: ch)) (hb : Below wr.heap.size wr w4) : Inv W c l (i + 1) b4 ((op, c) :: ch) vP w4 :=
  ⟨by omega, hch, by simp [HI.len], by intro x hx; rcases List.mem_cons.1 hx with rfl | hx; exact ⟨hs, rfl⟩; exact HI.all x hx, by rw [show opsL ((op, c) :: ch) = opsL ch from by simp [opsL, ho]]; exact Kd.R_below HI.path hb, belowT HI.below hb⟩
theorem inv_step {W : World} {c : Int} {l : List ByteArray} {i b b4 : Nat} {ch : List (ByteArray × Int)} {vP v5 : Value} {wr w5 : World} {op : ByteArray} (HI : Inv W c l i b ch vP wr) (hi : (i : Int) < (l.length : Int)) (hs : op.size ≤ 30) (ho : op.toList.isEmpty = false) (hch : Chain w5 w5.heap.size (err b4) ((op, c) :: ch)) (hO : Kd.R Kd.string 9 w5 W.heap.size (fun _ => True) v5 ([op] ++ opsL ch)) (hb : Below W.heap.size W w5) : Inv W c l (i + 1) b4 ((op, c) :: ch) v5 w5 :=
  ⟨by omega, hch, by simp [HI.len], by intro x hx; rcases List.mem_cons.1 hx with rfl | hx; exact ⟨hs, rfl⟩; exact HI.all x hx, by rw [show opsL ((op, c) :: ch) = [op] ++ opsL ch from by simp [opsL, ho]]; exact hO, hb⟩
theorem meas (n i : Nat) (hi : (i : Int) < (n : Int)) (hw : wrap64 ((i : Int) + 1) = ((i + 1 : Nat) : Int)) : n - (intOf (.int .i64 (wrap64 ((i : Int) + 1)))).toNat < n - (intOf (.int .i64 (i : Int))).toNat := by
  rw [hw]
  show n - (((i + 1 : Nat) : Int)).toNat < n - ((i : Int)).toNat
  omega
theorem idx (i : Nat) (hw : wrap64 ((i : Int) + 1) = ((i + 1 : Nat) : Int)) : Value.int .i64 (wrap64 ((i : Int) + 1)) = .int .i64 ((i + 1 : Nat) : Int) := congrArg _ hw
theorem wraps_some (W : World) (hL : Laid W) (c : Int) (hc : c ≠ 0) (A : Option Addr) (cp : Nat) (l : List ByteArray) (hr : Kd.C Kd.string W A l.length l) (hcp : l.length ≤ cp) (hl : decide ((20 : Int) < (l.length : Int)) = false) :
    Calls Tryd.prog 6 #[.int .i64 c, .slice A l.length cp] W fun e w' => e = .returned (.bool true) ∧ Below W.heap.size W w' := by
  have HA := alive_true W hL
  have hLH := Lib.hid hL
  have HR := Aside0.mk hr
  have HCP := Aside0.mk hcp
  have h1 : (c == 0) = false := by simpa using hc
  clear hL hr hcp
  go_enter Tryd.func6, Tryd.ntmps6
  go_wp2_with (first | (go_at_call 8; refine HA.mono ?_; rintro e w1 ⟨rfl, hb1⟩; clear HA) | (go_at_call 10; refine (new_some c hc _).mono ?_; rintro e w2 ⟨rfl, rfl⟩) | (go_at_call 9; refine (name_any _ c).mono ?_; rintro e w3 ⟨rfl, hb3⟩))
  have hI0 : Aside0 (Inv W c l 0 w1.heap.size [(⟨#[]⟩, c)] (.slice none 0 0) w3) := ⟨⟨Nat.zero_le _, ((chainN w1 ⟨#[]⟩ c).under hb3 (Nat.le_refl _)).up hb3.size, rfl, by intro x hx; simp only [List.mem_singleton] at hx; subst hx; exact ⟨Nat.zero_le _, rfl⟩, (by rw [ops0]; exact Kd.R_nil _ _ _ _ _), belowT hb1 (belowT (below_new _ _) hb3)⟩⟩
  have hlen := Aside0.mk (show l.length ≤ 20 by simp only [decide_eq_false_iff_not] at hl; omega)
  clear hb1 hb3 hl
  go_loopw [5, 6, 7, 28] (fun vE vP vS vI wl => ∃ (i b : Nat) (ch : List (ByteArray × Int)), vE = err b ∧ vI = .int .i64 (i : Int) ∧ vS = .string (wordsOf ch) ∧ Aside0 (Inv W c l i b ch vP wl)) (fun _ _ _ vI _ => l.length - (intOf vI).toNat)
  case atStart => exact ⟨0, _, _, rfl, rfl, by rw [words0], hI0⟩
  case round =>
    obtain ⟨i, b, ch, rfl, rfl, rfl, HI⟩ := hrel
    clear hI0
    obtain ⟨A2, c2, eP⟩ := Kd.R_slice HI.out.path
    subst eP
    have hws := Aside0.mk (show (wordsOf ch).size ≤ 3000 by have h := words_size ch (fun x hx => Nat.le_trans (HI.out.all x hx).1 (by decide)); rw [HI.out.len] at h; have h1 := HI.out.le; have h2 := hlen.out; omega)
    by_cases hi : (i : Int) < (l.length : Int)
    · have hi1 : decide ((i : Int) < (l.length : Int)) = true := decide_eq_true hi
      have p1 : (0 : Int) ≤ (i : Int) := by omega
      obtain ⟨ad, e1, hx⟩ := Kd.at_string HR.out (i : Int) p1 hi
      cases e1
      generalize rdOf ByteArray.empty l (i : Int) = op at *
      have hxr : wr.cell? (ad.add i) = some (.string op) := (HI.out.below.cell (p := ad.add ((i : Int)).toNat) (cell_lt hx)).trans hx
      have hne : ch ≠ [] := by intro h; have := HI.out.len; rw [h] at this; simp at this
      have hall : ∀ x ∈ ch, x.2 = c := fun x hx => (HI.out.all x hx).2
      have HW := Wrap_all wr (hLH.out.on HI.out.below) b op c ch hne hall HI.out.chain
      have hne := Lib.hid hne
      have hall := Lib.hid hall
      have hwrap := Aside0.mk (show wrap64 ((i : Int) + 1) = ((i + 1 : Nat) : Int) from by unfold wrap64; have h1 := HI.out.le; have h2 := hlen.out; omega)
      have hi := Aside0.mk hi
      have hwl := hws.out
      clear hx p1
      by_cases hs : (30 : Int) < (op.size : Int)
      · have hs1 : decide ((30 : Int) < (op.size : Int)) = true := decide_eq_true hs
        go_wp2
        go_ret
        exact ⟨rfl, HI.out.below⟩
      · have hs1 : decide ((30 : Int) < (op.size : Int)) = false := decide_eq_false hs
        have hs2 : op.size ≤ 30 := by omega
        have hs := Aside0.mk hs
        by_cases ho : op.toList.isEmpty = true
        · have ho2 : op.toList = [] := by simpa using ho
          have ho3 : (op.toList == ([] : List UInt8)) = true := by simp [ho2]
          go_wp2_with ((go_at_call 19; refine HW.mono ?_; rintro e w4 ⟨b4, rfl, hch4, hb4⟩; clear HW; have hch4 := Lib.hid hch4))
          go_roundw
          case rel => exact ⟨i + 1, b4, (op, c) :: ch, rfl, idx i hwrap.out, congrArg _ (words_skip op c ch hne.out ho).symm, ⟨inv_skip HI.out hi.out hs2 ho hch4.out hb4⟩⟩
          case measure => exact meas _ i hi.out hwrap.out
        · have ho1 := Bool.eq_false_iff.mpr ho
          have ho3 : (op.toList == ([] : List UInt8)) = false := by cases h : op.toList <;> simp [h] at ho1 ⊢
          clear ho
          go_wp2_with (first | (go_at_call 19; refine HW.mono ?_; rintro e w4 ⟨b4, rfl, hch4, hb4⟩; clear HW; have hch4 := Lib.hid hch4; have hW4 := belowT HI.out.below hb4; have hO := Aside0.mk (lit_row W w4 op hW4.size); have hB4 := Aside0.mk (belowT hW4 (below_new w4 (.cells #[.string op] 9))); have hR4 := Aside0.mk (Kd.R_reads' (Kd.R_below (Kd.R_below HI.out.path hb4) (below_new w4 (.cells #[.string op] 9)))); have hol := Aside0.mk (opsL_bound (op := op) ch i HI.out.len (by have h1 := HI.out.le; have h2 := hlen.out; omega)); clear hW4) | ((with_reducible refine gate_builtin (b := .append) (xs := #[(.tmp 41), (.tmp 42)]) rfl ?_); at_builtin; refine Kd.R_append_row Value.string (⟨#[]⟩ : ByteArray) (h1 := fun _ => rfl) (w0 := W) W.heap.size rfl (.tmp 41) (.tmp 42) 44 9 (.string ⟨#[]⟩) 16 rfl Tryd.underlying44 infoStr rfl (by decide) _ [op] (opsL ch) A2 (opsL ch).length c2 (fun _ => True) rfl rfl (fun _ _ => trivial) hO.out hR4.out.2.2 hB4.out hB4.out.size hol.out ?_; intro v5 w5 hv hw hg hat; have hO5 := Aside0.mk hv; have hB5 := Aside0.mk hw; have hch5 := Lib.hid (chain_grown hch4.out hg); clear hv hw hg hat))
          go_roundw
          case rel => exact ⟨i + 1, b4, (op, c) :: ch, rfl, idx i hwrap.out, congrArg _ (words_step op c ch hne.out ho1).symm, ⟨inv_step HI.out hi.out hs2 ho1 hch5.out hO5.out hB5.out⟩⟩
          case measure => exact meas _ i hi.out hwrap.out
    · have hi1 : decide ((i : Int) < (l.length : Int)) = false := decide_eq_false hi
      have hi := Aside0.mk hi
      have hne : ch ≠ [] := by intro h; have := HI.out.len; rw [h] at this; simp at this
      have hall : ∀ x ∈ ch, x.2 = c := fun x hx => (HI.out.all x hx).2
      have hlc : ch.length ≤ 100 := by rw [HI.out.len]; have h1 := HI.out.le; have h2 := hlen.out; omega
      have hch := HI.out.chain
      have hLr := hLH.out.on HI.out.below
      have hT := Below.refl wr.heap.size wr
      have X1 := fun (w : World) (h : Below wr.heap.size wr w) => Code_all w (hLr.on h) wr.heap.size b c ch hne hall (hch.under h (Nat.le_refl _))
      have X2 := fun (w : World) (h : Below wr.heap.size wr w) => Has_chain w wr.heap.size h.size c b _ (hch.under h (Nat.le_refl _))
      rw [(has_all c hc ch hne hall).1] at X2
      have X3 := fun (w : World) (h : Below wr.heap.size wr w) => Is_code w wr.heap.size h.size c hc b _ (hch.under h (Nat.le_refl _))
      rw [(has_all c hc ch hne hall).2] at X3
      have X4 := fun (w : World) (h : Below wr.heap.size wr w) => Path_chain w wr.heap.size h.size (err b) ch hlc (hch.under h (Nat.le_refl _))
      have X5 := fun (w : World) (h : Below wr.heap.size wr w) => Error_chain ch w wr.heap.size b (fun x hx => Nat.le_trans (HI.out.all x hx).1 (by decide)) hlc h.size (hch.under h (Nat.le_refl _))
      have hol := Nat.le_trans (opsL_le ch) hlc
      have hch := Lib.hid hch
      have hne := Lib.hid hne
      have hall := Lib.hid hall
      have hlc := Lib.hid hlc
      have hol := Lib.hid hol
      have hLr := Lib.hid hLr
      have mE := methodError
      go_wp2_with (first | (go_at_call 18; refine (X1 _ hT).mono ?_; rintro e w4 ⟨rfl, hb4⟩; replace hT := belowT hT hb4; clear hb4 X1) | (go_at_call 21; refine (X2 _ hT).mono ?_; rintro e w4 ⟨rfl, hb4⟩; replace hT := belowT hT hb4; clear hb4 X2) | (go_at_call 10; refine (new_some c hc _).mono ?_; rintro e w4 ⟨rfl, rfl⟩) | (go_at_call 22; refine (X3 _ hT).mono ?_; rintro e w4 ⟨rfl, hb4⟩; replace hT := belowT hT hb4; clear hb4 X3) | (go_at_call 24; refine (X4 _ hT).mono ?_; rintro e w4 ⟨v, rfl, hv, hb4⟩; replace hT := belowT hT hb4; clear hb4 X4; obtain ⟨A3, c3, e3⟩ := Kd.R_slice hv; subst e3; have hC3 := Kd.R_reads' hv; have hC2 := Kd.R_reads' (Kd.R_below HI.out.path hT); have X6 := PFailWraps.bywashbook_SameTexts.calls ((opsL ch).length + 1) A3 c3 (opsL ch) A2 c2 (opsL ch) true w4 hC3.2.2 hC3.2.1 hC2.2.2 hC2.2.1 (same_texts (opsL ch) hol.out); clear hv hC3 hC2) | (go_at_call 23; refine X6.mono ?_; rintro e w4 ⟨rfl, ⟨n, rfl⟩⟩; replace hT := below_drewN hT n; clear X6) | (go_at_call 13; refine (X5 _ hT).mono ?_; rintro e w4 ⟨rfl, hb4⟩; replace hT := belowT hT hb4; clear hb4 X5))
      go_ret
      exact ⟨rfl, belowT HI.out.below hT⟩
theorem wraps_alive (W : World) (hL : Laid W) (c : Int) (A : Option Addr) (cp n : Nat) (h : (c == 0) = true ∨ ((c == 0) = false ∧ decide ((20 : Int) < (n : Int)) = true)) :
    Calls Tryd.prog 6 #[.int .i64 c, .slice A n cp] W fun e w' => e = .returned (.bool true) ∧ Below W.heap.size W w' := by
  have HA := alive_true W hL
  clear hL
  rcases h with h1 | ⟨h1, h2⟩ <;>
  · go_enter Tryd.func6, Tryd.ntmps6
    go_wp2_with ((go_at_call 8; refine HA.mono ?_; rintro e w1 ⟨rfl, hb1⟩; clear HA))
    go_ret
    exact ⟨rfl, hb1⟩
theorem FailWraps_all (W : World) (hL : Laid W) (c : Int) (A : Option Addr) (cp : Nat) (l : List ByteArray) (hr : Kd.C Kd.string W A l.length l) (hcp : l.length ≤ cp) :
    Calls Tryd.prog 6 #[.int .i64 c, .slice A l.length cp] W fun e w' => e = .returned (.bool true) ∧ Below W.heap.size W w' := by
  by_cases hc : c = 0
  · exact wraps_alive W hL c A cp _ (Or.inl (by simpa using hc))
  · cases h : decide ((20 : Int) < (l.length : Int))
    · exact wraps_some W hL c hc A cp l hr hcp h
    · exact wraps_alive W hL c A cp _ (Or.inr ⟨by simpa using hc, h⟩)
end Go.Proofs.YtogkhpceahdaeaaDoor.Fail
