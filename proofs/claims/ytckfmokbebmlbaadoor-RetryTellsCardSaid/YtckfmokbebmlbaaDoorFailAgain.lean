/- What retry.Again and retry.Err answer: contracts of the calls. Conditions: those that each contract names. -/
import Derived.Test.YtckfmokbebmlbaaDoorFailRetry
namespace Go.Proofs.YtckfmokbebmlbaaDoor.Fail
open Go.RowKit Go.Extern.Stop Go.Stop Go.Extern
set_option linter.unusedVariables false
set_option linter.unusedSimpArgs false

theorem below_trans {W W1 W2 : World} (h : Below W.heap.size W W1) (k : Below W1.heap.size W1 W2) : Below W.heap.size W W2 := h.trans (k.mono h.size)

theorem Is_code (W : World) (B : Nat) (hB : B ≤ W.heap.size) (c : Int) (hc : c ≠ 0) (b : Nat) (l : List (ByteArray × Int)) (hch : Chain W B (err b) l) :
    Calls Tryd.prog 13 #[err b, err W.heap.size] (W.alloc (failure ⟨#[]⟩ c .nilIface)) fun e w' => e = .returned (.bool (l.any fun x => c == x.2)) ∧ Below W.heap.size W w' :=
  (Is_chain (W.alloc (failure ⟨#[]⟩ c .nilIface)) B W.heap.size c hc hB (heap_new W _) b l (hch.under (below_new W _) hB)).mono fun e w' h => ⟨h.1, by obtain ⟨n, rfl⟩ := h.2; exact below_drewN (below_new W _) n⟩

theorem untouched_chain (W : World) (B : Nat) (hB : B ≤ W.heap.size) (b : Nat) (l : List (ByteArray × Int)) (hch : Chain W B (err b) l) :
    Calls Tryd.prog 15 #[err b] W fun e w' => e = .returned (.bool ((l.any fun x => (15 : Int) == x.2) || (l.any fun x => (14 : Int) == x.2))) ∧ Below W.heap.size W w' := by
  have H1 := Is_code W B hB 15 (by decide) b l hch
  have H2 := fun (w : World) (h : Below W.heap.size W w) => Is_code w B (Nat.le_trans hB h.size) 14 (by decide) b l (hch.under h hB)
  clear hch
  by_cases h15 : (l.any fun x => (15 : Int) == x.2) = true
  · rw [h15] at H1
    have hf := Lib.hid h15
    clear h15 H2
    go_enter Tryd.func15, Tryd.ntmps15
    go_wp2_with (first | (go_at_call 14; refine (new_some 15 (by decide) _).mono ?_; rintro e w' ⟨rfl, rfl⟩) | (go_at_call 13; refine H1.mono ?_; rintro e w1 ⟨rfl, hb1⟩))
    go_ret
    exact ⟨by rw [hf.out]; rfl, hb1⟩
  · have h15 := Bool.eq_false_iff.mpr h15
    rw [h15] at H1
    have hf := Lib.hid h15
    clear h15
    go_enter Tryd.func15, Tryd.ntmps15
    go_wp2_with (first | (go_at_call 14; refine (new_some _ (by decide) _).mono ?_; rintro e w' ⟨rfl, rfl⟩) | (go_at_call 13; refine H1.mono ?_; rintro e w1 ⟨rfl, hb1⟩; clear H1) | (go_at_call 13; refine (H2 _ hb1).mono ?_; rintro e w2 ⟨rfl, hb2⟩))
    go_ret
    exact ⟨by rw [hf.out]; rfl, below_trans hb1 hb2⟩

/-- May it be sent again? -/
def againB (s : ByteArray) (c : Int) (written : Bool) (tries most : Int) : Bool :=
  if tries ≥ most then false else if finalB c then false else if c == 15 || c == 14 then true else safeB s || !written

theorem chain_new (W : World) (op : ByteArray) (c : Int) : Chain (W.alloc (failure op c .nilIface)) (W.heap.size + 1) (err W.heap.size) [(op, c)] :=
  .node _ _ _ _ _ (Nat.lt_succ_self _) (heap_new W _) .nil
theorem size_alloc (W : World) (o : Obj) : (W.alloc o).heap.size = W.heap.size + 1 := by simp [World.alloc_eq]
theorem untouched_new (W : World) (c : Int) :
    Calls Tryd.prog 15 #[err W.heap.size] (W.alloc (failure ⟨#[]⟩ c .nilIface)) fun e w' => e = .returned (.bool (c == 15 || c == 14)) ∧ Below W.heap.size W w' :=
  (untouched_chain (W.alloc (failure ⟨#[]⟩ c .nilIface)) (W.heap.size + 1) (by rw [size_alloc]; exact Nat.le_refl _) W.heap.size [(⟨#[]⟩, c)] (chain_new W _ c)).mono fun e w' h => ⟨h.1.trans (by simp only [List.any_cons, List.any_nil, Bool.or_false]; rw [BEq.comm (a := (15 : Int)), BEq.comm (a := (14 : Int))]), below_trans (below_new W _) h.2⟩

theorem again_any (W : World) (s : ByteArray) (c : Int) (written : Bool) (tries most : Int) :
    Calls Tryd.prog 5 #[.string s, .int .i64 c, .bool written, .int .i64 tries, .int .i64 most] W fun e w' => e = .returned (.bool (againB s c written tries most)) ∧ Below W.heap.size W w' := by
  by_cases ht : tries ≥ most
  · have hf : againB s c written tries most = false := by simp [againB, ht]
    have hf := Lib.hid hf
    have h1 : decide (most ≤ tries) = true := by simpa using ht
    clear ht
    go_enter Tryd.func5, Tryd.ntmps5
    go_wp2
    go_ret
    exact ⟨by rw [hf.out]; rfl, Below.refl _ _⟩
  · have h1 : decide (most ≤ tries) = false := by simpa using ht
    have HF := final_any W c
    by_cases hfin : finalB c = true
    · have hf : againB s c written tries most = false := by simp [againB, ht, hfin]
      have hf := Lib.hid hf
      rw [hfin] at HF
      clear ht hfin
      go_enter Tryd.func5, Tryd.ntmps5
      go_wp2_with ((go_at_call 7; refine HF.mono ?_; rintro e w' ⟨rfl, n, rfl⟩))
      go_ret
      exact ⟨by rw [hf.out]; rfl, below_drewN (Below.refl _ _) _⟩
    · have hfin := Bool.eq_false_iff.mpr hfin
      have hc : c ≠ 0 := by rintro rfl; exact absurd hfin (by decide)
      rw [hfin] at HF
      have HU := fun n : Nat => untouched_new (W.drewN n) c
      by_cases h15 : (c == 15 || c == 14) = true
      · have hf : againB s c written tries most = true := by simp [againB, ht, hfin, h15]
        have hf := Lib.hid hf
        rw [h15] at HU
        clear ht hfin h15
        go_enter Tryd.func5, Tryd.ntmps5
        go_wp2_with (first | (go_at_call 7; refine HF.mono ?_; rintro e w' ⟨rfl, n, rfl⟩) | (go_at_call 14; refine (new_some c hc _).mono ?_; rintro e w' ⟨rfl, rfl⟩) | (go_at_call 15; refine (HU _).mono ?_; rintro e w1 ⟨rfl, hb1⟩))
        go_ret
        exact ⟨by rw [hf.out]; rfl, below_trans (below_drewN (Below.refl _ _) n) hb1⟩
      · have h15 := Bool.eq_false_iff.mpr h15
        have hf : againB s c written tries most = (safeB s || !written) := by simp only [againB, if_neg ht, hfin, h15]; rfl
        have hf := Lib.hid hf
        have HS := fun w => safe_any w s
        rw [h15] at HU
        clear ht hfin h15
        generalize safeB s = z at *
        cases z
        · go_enter Tryd.func5, Tryd.ntmps5
          go_wp2_with (first | (go_at_call 7; refine HF.mono ?_; rintro e w' ⟨rfl, n, rfl⟩) | (go_at_call 14; refine (new_some c hc _).mono ?_; rintro e w' ⟨rfl, rfl⟩) | (go_at_call 15; refine (HU _).mono ?_; rintro e w1 ⟨rfl, hb1⟩) | (go_at_call 16; refine (HS _).mono ?_; rintro e w2 ⟨rfl, hb2⟩))
          go_ret
          exact ⟨by rw [hf.out]; rfl, below_trans (below_trans (below_drewN (Below.refl _ _) n) hb1) hb2⟩
        · go_enter Tryd.func5, Tryd.ntmps5
          go_wp2_with (first | (go_at_call 7; refine HF.mono ?_; rintro e w' ⟨rfl, n, rfl⟩) | (go_at_call 14; refine (new_some c hc _).mono ?_; rintro e w' ⟨rfl, rfl⟩) | (go_at_call 15; refine (HU _).mono ?_; rintro e w1 ⟨rfl, hb1⟩) | (go_at_call 16; refine (HS _).mono ?_; rintro e w2 ⟨rfl, hb2⟩))
          go_ret
          exact ⟨by rw [hf.out]; rfl, below_trans (below_trans (below_drewN (Below.refl _ _) n) hb1) hb2⟩
end Go.Proofs.YtckfmokbebmlbaaDoor.Fail
