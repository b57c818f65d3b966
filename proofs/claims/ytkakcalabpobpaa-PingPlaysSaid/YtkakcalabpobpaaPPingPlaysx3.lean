-- Written by a program of this session (the kit's printer, turned): the functions that the law reaches.
import Derived.Test.YtkakcalabpobpaaPPingPlaysx0
import Derived.Test.YtkakcalabpobpaaPPingPlaysx2
namespace Go.Proofs.Ytkakcalabpobpaa.PPingPlays
open Go.RowKit Go.Proofs.YtkakcalabpobpaaW.PrintWords Go.Proofs.YtkakcalabpobpaaW.PrintLast Go.Proofs.YtkakcalabpobpaaW.PrintMore
attribute [local go_sem] max2_int min2_int max_two min_two max_three min_three max_four min_four   -- for this text's walks alone
set_option linter.unusedVariables false
set_option linter.unusedSimpArgs false

/-! ### bywashref1_Health_Got: function 15 -/
def bywashref1_Health_Got.f (k : Nat) (s0_0 : Int) (s0_1 : Int) (s0_2 : Int) (s0_3 : Int) (s0_4 : Int) (s0_5 : Bool) (a1 : ByteArray) : Option (Bool × Int × Int × Int × Int × Int × Bool) := if s0_2 = 0 then (some (false, s0_0, s0_1, s0_2, s0_3, s0_4, s0_5)) else (if s0_5 = true then (some (false, s0_0, s0_1, s0_2, s0_3, s0_4, s0_5)) else ((bywashref1_Big.f k s0_2 8).bind fun t174 => (if a1.toList = t174.toList then (some (true, s0_0, s0_1, 0, 0, s0_4, s0_5)) else (some (false, s0_0, s0_1, s0_2, s0_3, s0_4, s0_5)))))
theorem bywashref1_Health_Got.mono : ∀ a0 a1 a2 a3 a4 a5 a6 k, LeO (bywashref1_Health_Got.f k a0 a1 a2 a3 a4 a5 a6) (bywashref1_Health_Got.f (k + 1) a0 a1 a2 a3 a4 a5 a6) := by
  intro a0 a1 a2 a3 a4 a5 a6 k
  unfold bywashref1_Health_Got.f
  repeat' first
      | (with_reducible exact bywashref1_Big.mono _ _ _)
      | (with_reducible exact LeO.refl _)
      | (with_reducible exact LeO.none _)
      | (with_reducible refine LeO.ite ?_ ?_)
      | (with_reducible refine LeO.bind ?_ (fun _ => ?_))
      | exact bywashref1_Big.mono _ _ _
      | exact LeO.none _
      | refine LeO.ite ?_ ?_
      | refine LeO.bind ?_ (fun _ => ?_)
set_option maxHeartbeats 8000000 in
set_option maxRecDepth 100000 in
theorem bywashref1_Health_Got.calls (k : Nat) (g : Nat) (s0_0 : Int) (s0_1 : Int) (s0_2 : Int) (s0_3 : Int) (s0_4 : Int) (s0_5 : Bool) (a1 : ByteArray) (r1 : Bool) (r2 : Int) (r3 : Int) (r4 : Int) (r5 : Int) (r6 : Int) (r7 : Bool) (w0 w : World) (hI : IsS32 w0 w g s0_0 s0_1 s0_2 s0_3 s0_4 s0_5) (hB : Below w0.heap.size w0 w) (h : bywashref1_Health_Got.f k s0_0 s0_1 s0_2 s0_3 s0_4 s0_5 a1 = some (r1, r2, r3, r4, r5, r6, r7)) :
    Calls Try.prog 15 #[.pointer (some ⟨g, 0, none⟩), .string a1] w fun e w' => e = .returned (.bool r1) ∧ IsS32 w0 w' g r2 r3 r4 r5 r6 r7 ∧ Below w0.heap.size w0 w' ∧ KeepBut w w' g none := by
  have HI0 := Aside0.mk hI
  have HK := Aside0.mk (KeepBut.refl w g none)
  have HL := Aside0.mk hB.size
  clear hI
  have HW0 := Aside0.mk hB.size
  have HB := Aside0.mk hB
  clear hB
  have H : (if s0_2 = 0 then (some (false, s0_0, s0_1, s0_2, s0_3, s0_4, s0_5)) else (if s0_5 = true then (some (false, s0_0, s0_1, s0_2, s0_3, s0_4, s0_5)) else ((bywashref1_Big.f k s0_2 8).bind fun t174 => (if a1.toList = t174.toList then (some (true, s0_0, s0_1, 0, 0, s0_4, s0_5)) else (some (false, s0_0, s0_1, s0_2, s0_3, s0_4, s0_5)))))) = some (r1, r2, r3, r4, r5, r6, r7) := h
  clear h
  by_cases c3 : s0_2 = 0
  · rw [if_pos c3] at H
    have c3b0 : (s0_2 == 0) = true := beq_iff_eq.mpr c3
    have c3b1 : (s0_2 != 0) = false := bne_eq_false_iff_eq.mpr c3
    clear c3
    simp only [Option.some.injEq, Prod.mk.injEq] at H
    obtain ⟨rfl, rfl, rfl, rfl, rfl, rfl, rfl⟩ := H
    obtain ⟨HGz4, hgz4⟩ := HI0.out
    have hcz4_0 := cellS32_0 HGz4
    have hcz4_1 := cellS32_1 HGz4
    have hcz4_2 := cellS32_2 HGz4
    have hcz4_3 := cellS32_3 HGz4
    have hcz4_4 := cellS32_4 HGz4
    have hcz4_5 := cellS32_5 HGz4
    have hfz4_0 := blk_frozen HGz4 0
    have hfz4_1 := blk_frozen HGz4 1
    have hfz4_2 := blk_frozen HGz4 2
    have hfz4_3 := blk_frozen HGz4 3
    have hfz4_4 := blk_frozen HGz4 4
    have hfz4_5 := blk_frozen HGz4 5
    clear HGz4 hgz4
    go_enter Try.func15, Try.ntmps15
    go_wp2
    go_ret
    exact ⟨by first | rfl | (simp [errW_none, errW_some] <;> rfl) | (simp [*, errW_none, errW_some] <;> rfl), by repeat (first | (with_reducible first | exact HI0.out | apply IsS32.alloc | apply IsS32.drewN | apply IsS32.drew | apply IsS32.set_0 | apply IsS32.set_1 | apply IsS32.set_2 | apply IsS32.set_3 | apply IsS32.set_4 | apply IsS32.set_5) | exact HI0.out), by repeat (first | (with_reducible first | exact HB.out | apply below_alloc | apply pw_below_drewN | apply below_drew1 | refine below_set ?_ (IsS32.ge HI0.out)) | exact HB.out), by repeat (first | (with_reducible first | exact HK.out | apply KeepBut.set_ | apply keep_drewN | apply keep_drew | apply keep_alloc) | exact HK.out)⟩
  · rw [if_neg c3] at H
    have c3b0 : (s0_2 == 0) = false := beq_eq_false_iff_ne.mpr c3
    have c3b1 : (s0_2 != 0) = true := bne_iff_ne.mpr c3
    by_cases c5 : s0_5 = true
    · subst c5
      have H1 : (some (false, s0_0, s0_1, s0_2, s0_3, s0_4, true)) = some (r1, r2, r3, r4, r5, r6, r7) := by rw [if_pos rfl] at H; exact H
      clear H
      have H := H1
      clear H1
      simp only [Option.some.injEq, Prod.mk.injEq] at H
      obtain ⟨rfl, rfl, rfl, rfl, rfl, rfl, rfl⟩ := H
      obtain ⟨HGz6, hgz6⟩ := HI0.out
      have hcz6_0 := cellS32_0 HGz6
      have hcz6_1 := cellS32_1 HGz6
      have hcz6_2 := cellS32_2 HGz6
      have hcz6_3 := cellS32_3 HGz6
      have hcz6_4 := cellS32_4 HGz6
      have hcz6_5 := cellS32_5 HGz6
      have hfz6_0 := blk_frozen HGz6 0
      have hfz6_1 := blk_frozen HGz6 1
      have hfz6_2 := blk_frozen HGz6 2
      have hfz6_3 := blk_frozen HGz6 3
      have hfz6_4 := blk_frozen HGz6 4
      have hfz6_5 := blk_frozen HGz6 5
      clear HGz6 hgz6
      go_enter Try.func15, Try.ntmps15
      go_wp2
      go_ret
      exact ⟨by first | rfl | (simp [errW_none, errW_some] <;> rfl) | (simp [*, errW_none, errW_some] <;> rfl), by repeat (first | (with_reducible first | exact HI0.out | apply IsS32.alloc | apply IsS32.drewN | apply IsS32.drew | apply IsS32.set_0 | apply IsS32.set_1 | apply IsS32.set_2 | apply IsS32.set_3 | apply IsS32.set_4 | apply IsS32.set_5) | exact HI0.out), by repeat (first | (with_reducible first | exact HB.out | apply below_alloc | apply pw_below_drewN | apply below_drew1 | refine below_set ?_ (IsS32.ge HI0.out)) | exact HB.out), by repeat (first | (with_reducible first | exact HK.out | apply KeepBut.set_ | apply keep_drewN | apply keep_drew | apply keep_alloc) | exact HK.out)⟩
    · replace c5 := Bool.eq_false_iff.mpr c5
      subst c5
      have H1 : ((bywashref1_Big.f k s0_2 8).bind fun t174 => (if a1.toList = t174.toList then (some (true, s0_0, s0_1, 0, 0, s0_4, false)) else (some (false, s0_0, s0_1, s0_2, s0_3, s0_4, false)))) = some (r1, r2, r3, r4, r5, r6, r7) := by rw [if_neg (show ¬ (false = true) by decide)] at H; exact H
      clear H
      have H := H1
      clear H1
      replace H := Option.bind_eq_some_iff.mp H
      obtain ⟨t174, A70, H⟩ := H
      replace H : (if a1.toList = t174.toList then (some (true, s0_0, s0_1, 0, 0, s0_4, false)) else (some (false, s0_0, s0_1, s0_2, s0_3, s0_4, false))) = some (r1, r2, r3, r4, r5, r6, r7) := H
      have A7 := Aside0.mk A70
      clear A70
      by_cases c8 : a1.toList = t174.toList
      · rw [if_pos c8] at H
        have c8b0 : (a1.toList == t174.toList) = true := beq_iff_eq.mpr c8
        have c8b1 : (a1.toList != t174.toList) = false := bne_eq_false_iff_eq.mpr c8
        clear c8
        simp only [Option.some.injEq, Prod.mk.injEq] at H
        obtain ⟨rfl, rfl, rfl, rfl, rfl, rfl, rfl⟩ := H
        obtain ⟨HGz9, hgz9⟩ := HI0.out
        have hcz9_0 := cellS32_0 HGz9
        have hcz9_1 := cellS32_1 HGz9
        have hcz9_2 := cellS32_2 HGz9
        have hcz9_3 := cellS32_3 HGz9
        have hcz9_4 := cellS32_4 HGz9
        have hcz9_5 := cellS32_5 HGz9
        have hfz9_0 := blk_frozen HGz9 0
        have hfz9_1 := blk_frozen HGz9 1
        have hfz9_2 := blk_frozen HGz9 2
        have hfz9_3 := blk_frozen HGz9 3
        have hfz9_4 := blk_frozen HGz9 4
        have hfz9_5 := blk_frozen HGz9 5
        clear HGz9 hgz9
        go_enter Try.func15, Try.ntmps15
        go_wp2_with (first | (go_at_call 16; (with_reducible refine (bywashref1_Big.calls k s0_2 8 t174 _ A7.out).mono ?_); rintro e w10 ⟨rfl, hb⟩; have n0_ := Aside0.mk (IsS32.below (by repeat (first | (with_reducible first | exact HI0.out | apply IsS32.alloc | apply IsS32.drewN | apply IsS32.drew | apply IsS32.set_0 | apply IsS32.set_1 | apply IsS32.set_2 | apply IsS32.set_3 | apply IsS32.set_4 | apply IsS32.set_5) | exact HI0.out)) hb); have n1_ := Aside0.mk (KeepBut.trans (by repeat (first | (with_reducible first | exact HK.out | apply KeepBut.set_ | apply keep_drewN | apply keep_drew | apply keep_alloc) | exact HK.out)) (KeepBut.of_below hb g none) (.inl rfl)); have n2_ := Aside0.mk (below_step (by repeat (first | (with_reducible first | exact HB.out | apply below_alloc | apply pw_below_drewN | apply below_drew1 | refine below_set ?_ (IsS32.ge HI0.out)) | exact HB.out)) hb); clear HI0; clear HK; clear HB; have HI0 := n0_; have HK := n1_; have HB := n2_; clear n0_ n1_ n2_; (try clear hb); (try clear hb2); (try clear hk); (try clear hi); obtain ⟨HGz11, hgz11⟩ := HI0.out; have hcz11_0 := cellS32_0 HGz11; have hcz11_1 := cellS32_1 HGz11; have hcz11_2 := cellS32_2 HGz11; have hcz11_3 := cellS32_3 HGz11; have hcz11_4 := cellS32_4 HGz11; have hcz11_5 := cellS32_5 HGz11; have hfz11_0 := blk_frozen HGz11 0; have hfz11_1 := blk_frozen HGz11 1; have hfz11_2 := blk_frozen HGz11 2; have hfz11_3 := blk_frozen HGz11 3; have hfz11_4 := blk_frozen HGz11 4; have hfz11_5 := blk_frozen HGz11 5; clear HGz11 hgz11))
        go_ret
        exact ⟨by first | rfl | (simp [errW_none, errW_some] <;> rfl) | (simp [*, errW_none, errW_some] <;> rfl), by repeat (first | (with_reducible first | exact HI0.out | apply IsS32.alloc | apply IsS32.drewN | apply IsS32.drew | apply IsS32.set_0 | apply IsS32.set_1 | apply IsS32.set_2 | apply IsS32.set_3 | apply IsS32.set_4 | apply IsS32.set_5) | exact HI0.out), by repeat (first | (with_reducible first | exact HB.out | apply below_alloc | apply pw_below_drewN | apply below_drew1 | refine below_set ?_ (IsS32.ge HI0.out)) | exact HB.out), by repeat (first | (with_reducible first | exact HK.out | apply KeepBut.set_ | apply keep_drewN | apply keep_drew | apply keep_alloc) | exact HK.out)⟩
      · rw [if_neg c8] at H
        have c8b0 : (a1.toList == t174.toList) = false := beq_eq_false_iff_ne.mpr c8
        have c8b1 : (a1.toList != t174.toList) = true := bne_iff_ne.mpr c8
        simp only [Option.some.injEq, Prod.mk.injEq] at H
        obtain ⟨rfl, rfl, rfl, rfl, rfl, rfl, rfl⟩ := H
        obtain ⟨HGz12, hgz12⟩ := HI0.out
        have hcz12_0 := cellS32_0 HGz12
        have hcz12_1 := cellS32_1 HGz12
        have hcz12_2 := cellS32_2 HGz12
        have hcz12_3 := cellS32_3 HGz12
        have hcz12_4 := cellS32_4 HGz12
        have hcz12_5 := cellS32_5 HGz12
        have hfz12_0 := blk_frozen HGz12 0
        have hfz12_1 := blk_frozen HGz12 1
        have hfz12_2 := blk_frozen HGz12 2
        have hfz12_3 := blk_frozen HGz12 3
        have hfz12_4 := blk_frozen HGz12 4
        have hfz12_5 := blk_frozen HGz12 5
        clear HGz12 hgz12
        go_enter Try.func15, Try.ntmps15
        go_wp2_with (first | (go_at_call 16; (with_reducible refine (bywashref1_Big.calls k s0_2 8 t174 _ A7.out).mono ?_); rintro e w13 ⟨rfl, hb⟩; have n0_ := Aside0.mk (IsS32.below (by repeat (first | (with_reducible first | exact HI0.out | apply IsS32.alloc | apply IsS32.drewN | apply IsS32.drew | apply IsS32.set_0 | apply IsS32.set_1 | apply IsS32.set_2 | apply IsS32.set_3 | apply IsS32.set_4 | apply IsS32.set_5) | exact HI0.out)) hb); have n1_ := Aside0.mk (KeepBut.trans (by repeat (first | (with_reducible first | exact HK.out | apply KeepBut.set_ | apply keep_drewN | apply keep_drew | apply keep_alloc) | exact HK.out)) (KeepBut.of_below hb g none) (.inl rfl)); have n2_ := Aside0.mk (below_step (by repeat (first | (with_reducible first | exact HB.out | apply below_alloc | apply pw_below_drewN | apply below_drew1 | refine below_set ?_ (IsS32.ge HI0.out)) | exact HB.out)) hb); clear HI0; clear HK; clear HB; have HI0 := n0_; have HK := n1_; have HB := n2_; clear n0_ n1_ n2_; (try clear hb); (try clear hb2); (try clear hk); (try clear hi)))
        go_ret
        exact ⟨by first | rfl | (simp [errW_none, errW_some] <;> rfl) | (simp [*, errW_none, errW_some] <;> rfl), by repeat (first | (with_reducible first | exact HI0.out | apply IsS32.alloc | apply IsS32.drewN | apply IsS32.drew | apply IsS32.set_0 | apply IsS32.set_1 | apply IsS32.set_2 | apply IsS32.set_3 | apply IsS32.set_4 | apply IsS32.set_5) | exact HI0.out), by repeat (first | (with_reducible first | exact HB.out | apply below_alloc | apply pw_below_drewN | apply below_drew1 | refine below_set ?_ (IsS32.ge HI0.out)) | exact HB.out), by repeat (first | (with_reducible first | exact HK.out | apply KeepBut.set_ | apply keep_drewN | apply keep_drew | apply keep_alloc) | exact HK.out)⟩

end Go.Proofs.Ytkakcalabpobpaa.PPingPlays
