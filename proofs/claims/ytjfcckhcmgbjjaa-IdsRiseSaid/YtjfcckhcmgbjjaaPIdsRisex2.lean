-- Written by a program of this session (the kit's printer, turned): the functions that the law reaches.
import Derived.Test.YtjfcckhcmgbjjaaPIdsRisex0
import Derived.Test.YtjfcckhcmgbjjaaPIdsRisex1
namespace Go.Proofs.Ytjfcckhcmgbjjaa.PIdsRise
open Go.RowKit Go.Proofs.YtjfcckhcmgbjjaaW.PrintWords Go.Proofs.YtjfcckhcmgbjjaaW.PrintLast Go.Proofs.YtjfcckhcmgbjjaaW.PrintMore
attribute [local go_sem] max2_int min2_int max_two min_two max_three min_three max_four min_four   -- for this text's walks alone
set_option linter.unusedVariables false
set_option linter.unusedSimpArgs false

/-! ### bywashlaw18_IdsRise: function 4 -/
mutual
def bywashlaw18_IdsRise.j0 : Nat → Int → Int → Bool → Option (Bool)
  | 0, _, _, _ => none
  | k + 1, x0, x1, x28 => if x28 = true then ((bywashlaw18_alive.f k).bind fun t129 => (some t129)) else ((ids_New.f (wrap64 (2147483647 - (wrap64 (2 * x0))))).bind fun bt130 => (bywashlaw18_IdsRise.l0 k x0 x1 (wrap64 (2147483647 - (wrap64 (2 * x0)))) 0 bt130.1 bt130.2))
def bywashlaw18_IdsRise.l0 : Nat → Int → Int → Int → Int → Int → Int → Option (Bool)
  | 0, _, _, _, _, _, _ => none
  | k + 1, x0, x1, x5, x7, x133000, x133001 => if x7 < x1 then ((ids_Ids_Next.f x133000 x133001).bind fun bt133 => (if (bt133.2.1 != (decide (x7 ≤ x0))) = true then (some false) else (if bt133.2.1 = true then (if bt133.1 = (wrap64 (x5 + (wrap64 (2 * x7)))) then ((ids_Ids_Left.f bt133.2.2.1 bt133.2.2.2).bind fun bt137 => (if (bt137.1 != (decide (x7 < x0))) = true then (some false) else (bywashlaw18_IdsRise.l0 k x0 x1 x5 (wrap64 (x7 + 1)) bt137.2.1 bt137.2.2))) else (some false)) else (if bt133.1 = 0 then ((ids_Ids_Left.f bt133.2.2.1 bt133.2.2.2).bind fun bt140 => (if (bt140.1 != (decide (x7 < x0))) = true then (some false) else (bywashlaw18_IdsRise.l0 k x0 x1 x5 (wrap64 (x7 + 1)) bt140.2.1 bt140.2.2))) else (some false))))) else (bywashlaw18_IdsRise.l1 k x0 x1 x5 0 x133000 x133001)
def bywashlaw18_IdsRise.l1 : Nat → Int → Int → Int → Int → Int → Int → Option (Bool)
  | 0, _, _, _, _, _, _ => none
  | k + 1, x0, x1, x5, x10, x133000, x133001 => if x10 ≤ x0 then ((ids_Ids_Kind.f k x133000 x133001 (wrap64 (x5 + (wrap64 (2 * x10))))).bind fun bt143 => (if ((bt143.1 == 1) != (decide (x10 < x1))) = true then (some false) else (bywashlaw18_IdsRise.l1 k x0 x1 x5 (wrap64 (x10 + 1)) bt143.2.1 bt143.2.2))) else ((ids_Ids_Kind.f k x133000 x133001 (wrap64 (x5 - 1))).bind fun bt146 => (if bt146.1 = 0 then ((ids_Ids_Kind.f k bt146.2.1 bt146.2.2 0).bind fun bt149 => (if bt149.1 = 0 then ((ids_Ids_Kind.f k bt149.2.1 bt149.2.2 2147483649).bind fun bt152 => (some (bt152.1 == 0))) else (some false))) else (some false)))
end
def bywashlaw18_IdsRise.f (k : Nat) (a0 : Int) (a1 : Int) : Option (Bool) := if a0 < 0 then (bywashlaw18_IdsRise.j0 k a0 a1 true) else (if a0 > 50 then (bywashlaw18_IdsRise.j0 k a0 a1 true) else (if a1 < 0 then (bywashlaw18_IdsRise.j0 k a0 a1 true) else (if a1 > 80 then (bywashlaw18_IdsRise.j0 k a0 a1 true) else ((bywashlaw18_alive.f k).bind fun t128 => (bywashlaw18_IdsRise.j0 k a0 a1 (!t128))))))
theorem bywashlaw18_IdsRise.mono_l : ∀ k, (∀ y0 y1 y2, LeO (bywashlaw18_IdsRise.j0 k y0 y1 y2) (bywashlaw18_IdsRise.j0 (k + 1) y0 y1 y2)) ∧ (∀ y0 y1 y2 y3 y4 y5, LeO (bywashlaw18_IdsRise.l0 k y0 y1 y2 y3 y4 y5) (bywashlaw18_IdsRise.l0 (k + 1) y0 y1 y2 y3 y4 y5)) ∧ (∀ y0 y1 y2 y3 y4 y5, LeO (bywashlaw18_IdsRise.l1 k y0 y1 y2 y3 y4 y5) (bywashlaw18_IdsRise.l1 (k + 1) y0 y1 y2 y3 y4 y5))
  | 0 => ⟨fun _ _ _ r h => by simp [bywashlaw18_IdsRise.j0] at h, fun _ _ _ _ _ _ r h => by simp [bywashlaw18_IdsRise.l0] at h, fun _ _ _ _ _ _ r h => by simp [bywashlaw18_IdsRise.l1] at h⟩
  | k + 1 => by
    obtain ⟨ih0, ih1, ih2⟩ := bywashlaw18_IdsRise.mono_l k
    refine ⟨?_, ?_, ?_⟩
    · intro y0 y1 y2
      unfold bywashlaw18_IdsRise.j0
      repeat' first
      | (with_reducible exact ih0 _ _ _)
      | (with_reducible exact ih1 _ _ _ _ _ _)
      | (with_reducible exact ih2 _ _ _ _ _ _)
      | (with_reducible exact bywashlaw18_alive.mono _)
      | (with_reducible exact ids_Ids_Kind.mono _ _ _ _)
      | (with_reducible exact LeO.refl _)
      | (with_reducible exact LeO.none _)
      | (with_reducible refine LeO.ite ?_ ?_)
      | (with_reducible refine LeO.bind ?_ (fun _ => ?_))
      | exact ih0 _ _ _
      | exact ih1 _ _ _ _ _ _
      | exact ih2 _ _ _ _ _ _
      | exact bywashlaw18_alive.mono _
      | exact ids_Ids_Kind.mono _ _ _ _
      | exact LeO.none _
      | refine LeO.ite ?_ ?_
      | refine LeO.bind ?_ (fun _ => ?_)
    · intro y0 y1 y2 y3 y4 y5
      unfold bywashlaw18_IdsRise.l0
      repeat' first
      | (with_reducible exact ih0 _ _ _)
      | (with_reducible exact ih1 _ _ _ _ _ _)
      | (with_reducible exact ih2 _ _ _ _ _ _)
      | (with_reducible exact bywashlaw18_alive.mono _)
      | (with_reducible exact ids_Ids_Kind.mono _ _ _ _)
      | (with_reducible exact LeO.refl _)
      | (with_reducible exact LeO.none _)
      | (with_reducible refine LeO.ite ?_ ?_)
      | (with_reducible refine LeO.bind ?_ (fun _ => ?_))
      | exact ih0 _ _ _
      | exact ih1 _ _ _ _ _ _
      | exact ih2 _ _ _ _ _ _
      | exact bywashlaw18_alive.mono _
      | exact ids_Ids_Kind.mono _ _ _ _
      | exact LeO.none _
      | refine LeO.ite ?_ ?_
      | refine LeO.bind ?_ (fun _ => ?_)
    · intro y0 y1 y2 y3 y4 y5
      unfold bywashlaw18_IdsRise.l1
      repeat' first
      | (with_reducible exact ih0 _ _ _)
      | (with_reducible exact ih1 _ _ _ _ _ _)
      | (with_reducible exact ih2 _ _ _ _ _ _)
      | (with_reducible exact bywashlaw18_alive.mono _)
      | (with_reducible exact ids_Ids_Kind.mono _ _ _ _)
      | (with_reducible exact LeO.refl _)
      | (with_reducible exact LeO.none _)
      | (with_reducible refine LeO.ite ?_ ?_)
      | (with_reducible refine LeO.bind ?_ (fun _ => ?_))
      | exact ih0 _ _ _
      | exact ih1 _ _ _ _ _ _
      | exact ih2 _ _ _ _ _ _
      | exact bywashlaw18_alive.mono _
      | exact ids_Ids_Kind.mono _ _ _ _
      | exact LeO.none _
      | refine LeO.ite ?_ ?_
      | refine LeO.bind ?_ (fun _ => ?_)
theorem bywashlaw18_IdsRise.mono : ∀ a0 a1 k, LeO (bywashlaw18_IdsRise.f k a0 a1) (bywashlaw18_IdsRise.f (k + 1) a0 a1) := by
  intro a0 a1 k
  obtain ⟨ih0, ih1, ih2⟩ := bywashlaw18_IdsRise.mono_l k
  unfold bywashlaw18_IdsRise.f
  repeat' first
      | (with_reducible exact ih0 _ _ _)
      | (with_reducible exact ih1 _ _ _ _ _ _)
      | (with_reducible exact ih2 _ _ _ _ _ _)
      | (with_reducible exact bywashlaw18_alive.mono _)
      | (with_reducible exact ids_Ids_Kind.mono _ _ _ _)
      | (with_reducible exact LeO.refl _)
      | (with_reducible exact LeO.none _)
      | (with_reducible refine LeO.ite ?_ ?_)
      | (with_reducible refine LeO.bind ?_ (fun _ => ?_))
      | exact ih0 _ _ _
      | exact ih1 _ _ _ _ _ _
      | exact ih2 _ _ _ _ _ _
      | exact bywashlaw18_alive.mono _
      | exact ids_Ids_Kind.mono _ _ _ _
      | exact LeO.none _
      | refine LeO.ite ?_ ?_
      | refine LeO.bind ?_ (fun _ => ?_)
set_option maxHeartbeats 8000000 in
set_option maxRecDepth 100000 in
theorem bywashlaw18_IdsRise.calls (k : Nat) (a0 : Int) (a1 : Int) (r : Bool) (w : World) (h : bywashlaw18_IdsRise.f k a0 a1 = some r) :
    Calls Try.prog 4 #[.int .i64 a0, .int .i64 a1] w fun e w' => e = .returned (.bool r) ∧ Below w.heap.size w w' := by
  have HB := Aside0.mk (Below.refl w.heap.size w)
  have H : (if a0 < 0 then (bywashlaw18_IdsRise.j0 k a0 a1 true) else (if a0 > 50 then (bywashlaw18_IdsRise.j0 k a0 a1 true) else (if a1 < 0 then (bywashlaw18_IdsRise.j0 k a0 a1 true) else (if a1 > 80 then (bywashlaw18_IdsRise.j0 k a0 a1 true) else ((bywashlaw18_alive.f k).bind fun t128 => (bywashlaw18_IdsRise.j0 k a0 a1 (!t128))))))) = some r := h
  clear h
  have HC3 := Aside0.mk H
  clear H
  go_enter Try.func4, Try.ntmps4
  go_upto_region 1 with (fail)
  go_cut [28] (fun v28 wc => ∃ (kq : Nat) (x28_2 : Bool), v28 = .bool x28_2 ∧ Aside0 (bywashlaw18_IdsRise.j0 kq a0 a1 x28_2 = some r) ∧ Aside0 (kq ≤ k) ∧ Aside0 (Below w.heap.size w wc))
  case first =>
    have H := HC3.out
    clear HC3
    by_cases c4 : a0 < 0
    · rw [if_pos c4] at H
      have c4b0 : decide (a0 < 0) = true := decide_eq_true c4
      clear c4
      (first | rw [c4b0] | (simp only [i64_w, i32_w]; rw [c4b0]) | skip)
      have H' := Aside0.mk H
      clear H
      go_wp2
      go_meet
      case rel => exact ⟨_, (true), (by first | rfl | (simp; done) | (simp [*]; done)), H', ⟨by first | omega | exact Nat.le_refl _⟩, ⟨by repeat (first | (with_reducible first | exact HB.out | apply below_alloc | apply pw_below_drewN | apply below_drew1) | exact HB.out)⟩⟩
    · rw [if_neg c4] at H
      have c4b0 : decide (a0 < 0) = false := decide_eq_false c4
      clear c4
      (first | rw [c4b0] | (simp only [i64_w, i32_w]; rw [c4b0]) | skip)
      by_cases c5 : a0 > 50
      · rw [if_pos c5] at H
        have c5b0 : decide (50 < a0) = true := decide_eq_true c5
        clear c5
        have H' := Aside0.mk H
        clear H
        go_wp2
        go_meet
        case rel => exact ⟨_, (true), (by first | rfl | (simp; done) | (simp [*]; done)), H', ⟨by first | omega | exact Nat.le_refl _⟩, ⟨by repeat (first | (with_reducible first | exact HB.out | apply below_alloc | apply pw_below_drewN | apply below_drew1) | exact HB.out)⟩⟩
      · rw [if_neg c5] at H
        have c5b0 : decide (50 < a0) = false := decide_eq_false c5
        clear c5
        by_cases c6 : a1 < 0
        · rw [if_pos c6] at H
          have c6b0 : decide (a1 < 0) = true := decide_eq_true c6
          clear c6
          have H' := Aside0.mk H
          clear H
          go_wp2
          go_meet
          case rel => exact ⟨_, (true), (by first | rfl | (simp; done) | (simp [*]; done)), H', ⟨by first | omega | exact Nat.le_refl _⟩, ⟨by repeat (first | (with_reducible first | exact HB.out | apply below_alloc | apply pw_below_drewN | apply below_drew1) | exact HB.out)⟩⟩
        · rw [if_neg c6] at H
          have c6b0 : decide (a1 < 0) = false := decide_eq_false c6
          clear c6
          by_cases c7 : a1 > 80
          · rw [if_pos c7] at H
            have c7b0 : decide (80 < a1) = true := decide_eq_true c7
            clear c7
            have H' := Aside0.mk H
            clear H
            go_wp2
            go_meet
            case rel => exact ⟨_, (true), (by first | rfl | (simp; done) | (simp [*]; done)), H', ⟨by first | omega | exact Nat.le_refl _⟩, ⟨by repeat (first | (with_reducible first | exact HB.out | apply below_alloc | apply pw_below_drewN | apply below_drew1) | exact HB.out)⟩⟩
          · rw [if_neg c7] at H
            have c7b0 : decide (80 < a1) = false := decide_eq_false c7
            clear c7
            replace H := Option.bind_eq_some_iff.mp H
            obtain ⟨t128, A80, H⟩ := H
            replace H : (bywashlaw18_IdsRise.j0 k a0 a1 (!t128)) = some r := H
            have A8 := Aside0.mk A80
            clear A80
            have H' := Aside0.mk H
            clear H
            go_wp2_with (first | (go_at_call 6; (with_reducible refine (bywashlaw18_alive.calls k  t128 _ A8.out).mono ?_); rintro e w9 ⟨rfl, hb⟩; have n0_ := Aside0.mk (below_step (by repeat (first | (with_reducible first | exact HB.out | apply below_alloc | apply pw_below_drewN | apply below_drew1) | exact HB.out)) hb); clear HB; have HB := n0_; clear n0_; (try clear hb); (try clear hb2); (try clear hk); (try clear hi)))
            go_meet
            case rel => exact ⟨_, (!t128), (by first | rfl | (simp; done) | (simp [*]; done)), H', ⟨by first | omega | exact Nat.le_refl _⟩, ⟨by repeat (first | (with_reducible first | exact HB.out | apply below_alloc | apply pw_below_drewN | apply below_drew1) | exact HB.out)⟩⟩
  case rest =>
    clear HC3
    try clear p2
    try clear c4
    try clear c4b0
    try clear c5
    try clear c5b0
    try clear c6
    try clear c6b0
    try clear c7
    try clear c7b0
    obtain ⟨kq, x28_2, rfl, HA, HJ2, HB⟩ := hcut
    cases kq with
    | zero => exact absurd HA.out (by simp [bywashlaw18_IdsRise.j0])
    | succ kj2 =>
      have H := HA.out
      clear HA
      simp only [bywashlaw18_IdsRise.j0] at H
      by_cases c10 : x28_2 = true
      · subst c10
        have H1 : ((bywashlaw18_alive.f kj2).bind fun t129 => (some t129)) = some r := by rw [if_pos rfl] at H; exact H
        clear H
        have H := H1
        clear H1
        replace H := Option.bind_eq_some_iff.mp H
        obtain ⟨t129, A110, H⟩ := H
        replace H : (some t129) = some r := H
        have A11 := Aside0.mk A110
        clear A110
        obtain rfl := Option.some.inj H
        go_wp2_with (first | ((with_reducible refine gate_callee (f := 6) rfl ?_); refine goesL_ (some 29) rfl rfl Try.func6 (by kernel_rfl) rfl #[] rfl (by (try simp only [List.map_toArray, List.map_cons, List.map_nil]); first | done | rfl | (simp only [List.length_drop, List.length_take]; rfl)) ?_; (with_reducible refine (bywashlaw18_alive.calls kj2  t129 _ A11.out).mono ?_); rintro e w12 ⟨rfl, hb⟩; refine ⟨_, rfl, ?_⟩; have n0_ := Aside0.mk (below_step (by repeat (first | (with_reducible first | exact HB.out | apply below_alloc | apply pw_below_drewN | apply below_drew1) | exact HB.out)) hb); clear HB; have HB := n0_; clear n0_; (try clear hb); (try clear hb2); (try clear hk); (try clear hi)))
        go_ret
        exact ⟨by first | rfl | (simp [errW_none, errW_some] <;> rfl) | (simp [*, errW_none, errW_some] <;> rfl), by repeat (first | (with_reducible first | exact HB.out | apply below_alloc | apply pw_below_drewN | apply below_drew1) | exact HB.out)⟩
      · replace c10 := Bool.eq_false_iff.mpr c10
        subst c10
        have H1 : ((ids_New.f (wrap64 (2147483647 - (wrap64 (2 * a0))))).bind fun bt130 => (bywashlaw18_IdsRise.l0 kj2 a0 a1 (wrap64 (2147483647 - (wrap64 (2 * a0)))) 0 bt130.1 bt130.2)) = some r := by rw [if_neg (show ¬ (false = true) by decide)] at H; exact H
        clear H
        have H := H1
        clear H1
        replace H := Option.bind_eq_some_iff.mp H
        obtain ⟨⟨t130, t131⟩, A130, H⟩ := H
        replace H : (bywashlaw18_IdsRise.l0 kj2 a0 a1 (wrap64 (2147483647 - (wrap64 (2 * a0)))) 0 t130 t131) = some r := H
        have A13 := Aside0.mk A130
        clear A130
        have H' := Aside0.mk H
        clear H
        go_wp2_with (first | ((with_reducible refine gate_callee (f := 7) rfl ?_); refine goesL_ (some 34) rfl rfl Try.func7 (by kernel_rfl) rfl #[.int .i64 (wrap64 (2147483647 - (wrap64 (2 * a0))))] rfl (by (try simp only [List.map_toArray, List.map_cons, List.map_nil]); first | done | rfl | (simp only [List.length_drop, List.length_take]; rfl)) ?_; (with_reducible refine (ids_New.calls (wrap64 (2147483647 - (wrap64 (2 * a0)))) t130 t131 w _ ?side1 A13.out).mono ?_); (case side1 => repeat (first | (with_reducible first | exact HB.out | apply below_alloc | apply pw_below_drewN | apply below_drew1) | exact HB.out)); rintro e w14 ⟨g132, rfl, hi, hb, hb2⟩; refine ⟨_, rfl, ?_⟩; have n0_ := Aside0.mk (hb); have n1_ := Aside0.mk (hi); clear HB; have HB := n0_; have HI132 := n1_; clear n0_ n1_; (try clear hb); (try clear hb2); (try clear hk); (try clear hi)))
        go_loopg [7] kj2 (fun kq v7 w' => ∃ (x7_2 : Int) (x133000_2 : Int) (x133001_2 : Int), v7 = .int .i64 x7_2 ∧ Aside0 (bywashlaw18_IdsRise.l0 kq a0 a1 (wrap64 (2147483647 - (wrap64 (2 * a0)))) x7_2 x133000_2 x133001_2 = some r) ∧ Aside0 (kq ≤ kj2) ∧ Aside0 (IsS35 w w' g132 x133000_2 x133001_2) ∧ Aside0 (Below w.heap.size w w'))
        case atStart => exact ⟨(0), (t130), (t131), (by first | rfl | (simp; done) | (simp [*]; done)), H', ⟨Nat.le_refl _⟩, ⟨by repeat (first | (with_reducible first | exact HI132.out | apply IsS35.alloc | apply IsS35.drewN | apply IsS35.drew | apply IsS35.set_0 | apply IsS35.set_1) | exact HI132.out)⟩, ⟨by repeat (first | (with_reducible first | exact HB.out | apply below_alloc | apply pw_below_drewN | apply below_drew1 | refine below_set ?_ (IsS35.ge HI132.out)) | exact HB.out)⟩⟩
        case round =>
          clear H'
          try clear c1
          try clear p2
          try clear c4
          try clear c4b0
          try clear c5
          try clear c5b0
          try clear c6
          try clear c6b0
          try clear p6
          try clear c7
          try clear c7b0
          try clear c10
          try clear p2
          obtain ⟨x7_2, x133000_2, x133001_2, rfl, HA, HK2, HI132, HB⟩ := hrel
          cases gk with
          | zero => exact absurd HA.out (by simp [bywashlaw18_IdsRise.l0])
          | succ k2 =>
            have H := HA.out
            clear HA
            simp only [bywashlaw18_IdsRise.l0] at H
            by_cases c15 : x7_2 < a1
            · rw [if_pos c15] at H
              have c15b0 : decide (x7_2 < a1) = true := decide_eq_true c15
              clear c15
              replace H := Option.bind_eq_some_iff.mp H
              obtain ⟨⟨t133, t134, t135, t136⟩, A160, H⟩ := H
              replace H : (if (t134 != (decide (x7_2 ≤ a0))) = true then (some false) else (if t134 = true then (if t133 = (wrap64 ((wrap64 (2147483647 - (wrap64 (2 * a0)))) + (wrap64 (2 * x7_2)))) then ((ids_Ids_Left.f t135 t136).bind fun bt137 => (if (bt137.1 != (decide (x7_2 < a0))) = true then (some false) else (bywashlaw18_IdsRise.l0 k2 a0 a1 (wrap64 (2147483647 - (wrap64 (2 * a0)))) (wrap64 (x7_2 + 1)) bt137.2.1 bt137.2.2))) else (some false)) else (if t133 = 0 then ((ids_Ids_Left.f t135 t136).bind fun bt140 => (if (bt140.1 != (decide (x7_2 < a0))) = true then (some false) else (bywashlaw18_IdsRise.l0 k2 a0 a1 (wrap64 (2147483647 - (wrap64 (2 * a0)))) (wrap64 (x7_2 + 1)) bt140.2.1 bt140.2.2))) else (some false)))) = some r := H
              have A16 := Aside0.mk A160
              clear A160
              by_cases c17 : (t134 != (decide (x7_2 ≤ a0))) = true
              · rw [if_pos c17] at H
                have c17b0 : (t134 != (decide (x7_2 ≤ a0))) = true := c17
                (try (have c17b1 : decide (t134 = (decide (x7_2 ≤ a0))) = false := by simpa using c17))
                (try (have c17b2 : (t134 == (decide (x7_2 ≤ a0))) = false := by simpa using c17))
                (try (have c17b3 : ¬ (t134 = (decide (x7_2 ≤ a0))) := by simpa using c17))
                clear c17
                obtain rfl := Option.some.inj H
                go_wp2_with (first | ((with_reducible refine gate_callee (f := 8) rfl ?_); refine goesL_ (some 44) rfl rfl Try.func8 (by kernel_rfl) rfl #[.pointer (some ⟨g132, 0, none⟩)] rfl (by (try simp only [List.map_toArray, List.map_cons, List.map_nil]); first | done | rfl | (simp only [List.length_drop, List.length_take]; rfl)) ?_; (with_reducible refine (ids_Ids_Next.calls g132 x133000_2 x133001_2 t133 t134 t135 t136 w _ ?side1 ?side2 A16.out).mono ?_); (case side1 => repeat (first | (with_reducible first | exact HI132.out | apply IsS35.alloc | apply IsS35.drewN | apply IsS35.drew | apply IsS35.set_0 | apply IsS35.set_1) | exact HI132.out)); (case side2 => repeat (first | (with_reducible first | exact HB.out | apply below_alloc | apply pw_below_drewN | apply below_drew1 | refine below_set ?_ (IsS35.ge HI132.out)) | exact HB.out)); rintro e w18 ⟨rfl, hi, hb, hk⟩; refine ⟨_, rfl, ?_⟩; have n0_ := Aside0.mk (hb); have n1_ := Aside0.mk (hi); clear HB; clear HI132; have HB := n0_; have HI132 := n1_; clear n0_ n1_; (try clear hb); (try clear hb2); (try clear hk); (try clear hi)))
                go_ret
                exact ⟨by first | rfl | (simp [errW_none, errW_some] <;> rfl) | (simp [*, errW_none, errW_some] <;> rfl), by repeat (first | (with_reducible first | exact HB.out | apply below_alloc | apply pw_below_drewN | apply below_drew1 | refine below_set ?_ (IsS35.ge HI132.out)) | exact HB.out)⟩
              · rw [if_neg c17] at H
                have c17b0 : (t134 != (decide (x7_2 ≤ a0))) = false := by simpa using c17
                (try (have c17b1 : decide (t134 = (decide (x7_2 ≤ a0))) = true := by simpa using c17))
                (try (have c17b2 : (t134 == (decide (x7_2 ≤ a0))) = true := by simpa using c17))
                clear c17
                by_cases c19 : t134 = true
                · subst c19
                  have H1 : (if t133 = (wrap64 ((wrap64 (2147483647 - (wrap64 (2 * a0)))) + (wrap64 (2 * x7_2)))) then ((ids_Ids_Left.f t135 t136).bind fun bt137 => (if (bt137.1 != (decide (x7_2 < a0))) = true then (some false) else (bywashlaw18_IdsRise.l0 k2 a0 a1 (wrap64 (2147483647 - (wrap64 (2 * a0)))) (wrap64 (x7_2 + 1)) bt137.2.1 bt137.2.2))) else (some false)) = some r := by rw [if_pos rfl] at H; exact H
                  clear H
                  have H := H1
                  clear H1
                  by_cases c20 : t133 = (wrap64 ((wrap64 (2147483647 - (wrap64 (2 * a0)))) + (wrap64 (2 * x7_2))))
                  · rw [if_pos c20] at H
                    have c20b0 : (t133 == (wrap64 ((wrap64 (2147483647 - (wrap64 (2 * a0)))) + (wrap64 (2 * x7_2))))) = true := beq_iff_eq.mpr c20
                    have c20b1 : (t133 != (wrap64 ((wrap64 (2147483647 - (wrap64 (2 * a0)))) + (wrap64 (2 * x7_2))))) = false := bne_eq_false_iff_eq.mpr c20
                    clear c20
                    replace H := Option.bind_eq_some_iff.mp H
                    obtain ⟨⟨t137, t138, t139⟩, A210, H⟩ := H
                    replace H : (if (t137 != (decide (x7_2 < a0))) = true then (some false) else (bywashlaw18_IdsRise.l0 k2 a0 a1 (wrap64 (2147483647 - (wrap64 (2 * a0)))) (wrap64 (x7_2 + 1)) t138 t139)) = some r := H
                    have A21 := Aside0.mk A210
                    clear A210
                    by_cases c22 : (t137 != (decide (x7_2 < a0))) = true
                    · rw [if_pos c22] at H
                      have c22b0 : (t137 != (decide (x7_2 < a0))) = true := c22
                      (try (have c22b1 : decide (t137 = (decide (x7_2 < a0))) = false := by simpa using c22))
                      (try (have c22b2 : (t137 == (decide (x7_2 < a0))) = false := by simpa using c22))
                      (try (have c22b3 : ¬ (t137 = (decide (x7_2 < a0))) := by simpa using c22))
                      clear c22
                      obtain rfl := Option.some.inj H
                      go_wp2_with (first | ((with_reducible refine gate_callee (f := 8) rfl ?_); refine goesL_ (some 44) rfl rfl Try.func8 (by kernel_rfl) rfl #[.pointer (some ⟨g132, 0, none⟩)] rfl (by (try simp only [List.map_toArray, List.map_cons, List.map_nil]); first | done | rfl | (simp only [List.length_drop, List.length_take]; rfl)) ?_; (with_reducible refine (ids_Ids_Next.calls g132 x133000_2 x133001_2 t133 true t135 t136 w _ ?side1 ?side2 A16.out).mono ?_); (case side1 => repeat (first | (with_reducible first | exact HI132.out | apply IsS35.alloc | apply IsS35.drewN | apply IsS35.drew | apply IsS35.set_0 | apply IsS35.set_1) | exact HI132.out)); (case side2 => repeat (first | (with_reducible first | exact HB.out | apply below_alloc | apply pw_below_drewN | apply below_drew1 | refine below_set ?_ (IsS35.ge HI132.out)) | exact HB.out)); rintro e w23 ⟨rfl, hi, hb, hk⟩; refine ⟨_, rfl, ?_⟩; have n0_ := Aside0.mk (hb); have n1_ := Aside0.mk (hi); clear HB; clear HI132; have HB := n0_; have HI132 := n1_; clear n0_ n1_; (try clear hb); (try clear hb2); (try clear hk); (try clear hi)) | (go_at_call 9; (with_reducible refine (ids_Ids_Left.calls g132 t135 t136 t137 t138 t139 w _ ?side1 ?side2 A21.out).mono ?_); (case side1 => repeat (first | (with_reducible first | exact HI132.out | apply IsS35.alloc | apply IsS35.drewN | apply IsS35.drew | apply IsS35.set_0 | apply IsS35.set_1) | exact HI132.out)); (case side2 => repeat (first | (with_reducible first | exact HB.out | apply below_alloc | apply pw_below_drewN | apply below_drew1 | refine below_set ?_ (IsS35.ge HI132.out)) | exact HB.out)); rintro e w24 ⟨rfl, hi, hb, hk⟩; have n0_ := Aside0.mk (hb); have n1_ := Aside0.mk (hi); clear HB; clear HI132; have HB := n0_; have HI132 := n1_; clear n0_ n1_; (try clear hb); (try clear hb2); (try clear hk); (try clear hi)))
                      go_ret
                      exact ⟨by first | rfl | (simp [errW_none, errW_some] <;> rfl) | (simp [*, errW_none, errW_some] <;> rfl), by repeat (first | (with_reducible first | exact HB.out | apply below_alloc | apply pw_below_drewN | apply below_drew1 | refine below_set ?_ (IsS35.ge HI132.out)) | exact HB.out)⟩
                    · rw [if_neg c22] at H
                      have c22b0 : (t137 != (decide (x7_2 < a0))) = false := by simpa using c22
                      (try (have c22b1 : decide (t137 = (decide (x7_2 < a0))) = true := by simpa using c22))
                      (try (have c22b2 : (t137 == (decide (x7_2 < a0))) = true := by simpa using c22))
                      clear c22
                      have H' := Aside0.mk H
                      clear H
                      go_wp2_with (first | ((with_reducible refine gate_callee (f := 8) rfl ?_); refine goesL_ (some 44) rfl rfl Try.func8 (by kernel_rfl) rfl #[.pointer (some ⟨g132, 0, none⟩)] rfl (by (try simp only [List.map_toArray, List.map_cons, List.map_nil]); first | done | rfl | (simp only [List.length_drop, List.length_take]; rfl)) ?_; (with_reducible refine (ids_Ids_Next.calls g132 x133000_2 x133001_2 t133 true t135 t136 w _ ?side1 ?side2 A16.out).mono ?_); (case side1 => repeat (first | (with_reducible first | exact HI132.out | apply IsS35.alloc | apply IsS35.drewN | apply IsS35.drew | apply IsS35.set_0 | apply IsS35.set_1) | exact HI132.out)); (case side2 => repeat (first | (with_reducible first | exact HB.out | apply below_alloc | apply pw_below_drewN | apply below_drew1 | refine below_set ?_ (IsS35.ge HI132.out)) | exact HB.out)); rintro e w25 ⟨rfl, hi, hb, hk⟩; refine ⟨_, rfl, ?_⟩; have n0_ := Aside0.mk (hb); have n1_ := Aside0.mk (hi); clear HB; clear HI132; have HB := n0_; have HI132 := n1_; clear n0_ n1_; (try clear hb); (try clear hb2); (try clear hk); (try clear hi)) | (go_at_call 9; (with_reducible refine (ids_Ids_Left.calls g132 t135 t136 t137 t138 t139 w _ ?side1 ?side2 A21.out).mono ?_); (case side1 => repeat (first | (with_reducible first | exact HI132.out | apply IsS35.alloc | apply IsS35.drewN | apply IsS35.drew | apply IsS35.set_0 | apply IsS35.set_1) | exact HI132.out)); (case side2 => repeat (first | (with_reducible first | exact HB.out | apply below_alloc | apply pw_below_drewN | apply below_drew1 | refine below_set ?_ (IsS35.ge HI132.out)) | exact HB.out)); rintro e w26 ⟨rfl, hi, hb, hk⟩; have n0_ := Aside0.mk (hb); have n1_ := Aside0.mk (hi); clear HB; clear HI132; have HB := n0_; have HI132 := n1_; clear n0_ n1_; (try clear hb); (try clear hb2); (try clear hk); (try clear hi)))
                      go_roundg k2
                      case measure => have := HJ2.out; have := HK2.out; omega
                      case rel => exact ⟨(wrap64 (x7_2 + 1)), (t138), (t139), (by first | rfl | (simp; done) | (simp [*]; done)), H', ⟨by have := HJ2.out; have := HK2.out; omega⟩, ⟨by repeat (first | (with_reducible first | exact HI132.out | apply IsS35.alloc | apply IsS35.drewN | apply IsS35.drew | apply IsS35.set_0 | apply IsS35.set_1) | exact HI132.out)⟩, ⟨by repeat (first | (with_reducible first | exact HB.out | apply below_alloc | apply pw_below_drewN | apply below_drew1 | refine below_set ?_ (IsS35.ge HI132.out)) | exact HB.out)⟩⟩
                  · rw [if_neg c20] at H
                    have c20b0 : (t133 == (wrap64 ((wrap64 (2147483647 - (wrap64 (2 * a0)))) + (wrap64 (2 * x7_2))))) = false := beq_eq_false_iff_ne.mpr c20
                    have c20b1 : (t133 != (wrap64 ((wrap64 (2147483647 - (wrap64 (2 * a0)))) + (wrap64 (2 * x7_2))))) = true := bne_iff_ne.mpr c20
                    obtain rfl := Option.some.inj H
                    go_wp2_with (first | ((with_reducible refine gate_callee (f := 8) rfl ?_); refine goesL_ (some 44) rfl rfl Try.func8 (by kernel_rfl) rfl #[.pointer (some ⟨g132, 0, none⟩)] rfl (by (try simp only [List.map_toArray, List.map_cons, List.map_nil]); first | done | rfl | (simp only [List.length_drop, List.length_take]; rfl)) ?_; (with_reducible refine (ids_Ids_Next.calls g132 x133000_2 x133001_2 t133 true t135 t136 w _ ?side1 ?side2 A16.out).mono ?_); (case side1 => repeat (first | (with_reducible first | exact HI132.out | apply IsS35.alloc | apply IsS35.drewN | apply IsS35.drew | apply IsS35.set_0 | apply IsS35.set_1) | exact HI132.out)); (case side2 => repeat (first | (with_reducible first | exact HB.out | apply below_alloc | apply pw_below_drewN | apply below_drew1 | refine below_set ?_ (IsS35.ge HI132.out)) | exact HB.out)); rintro e w27 ⟨rfl, hi, hb, hk⟩; refine ⟨_, rfl, ?_⟩; have n0_ := Aside0.mk (hb); have n1_ := Aside0.mk (hi); clear HB; clear HI132; have HB := n0_; have HI132 := n1_; clear n0_ n1_; (try clear hb); (try clear hb2); (try clear hk); (try clear hi)))
                    go_ret
                    exact ⟨by first | rfl | (simp [errW_none, errW_some] <;> rfl) | (simp [*, errW_none, errW_some] <;> rfl), by repeat (first | (with_reducible first | exact HB.out | apply below_alloc | apply pw_below_drewN | apply below_drew1 | refine below_set ?_ (IsS35.ge HI132.out)) | exact HB.out)⟩
                · replace c19 := Bool.eq_false_iff.mpr c19
                  subst c19
                  have H1 : (if t133 = 0 then ((ids_Ids_Left.f t135 t136).bind fun bt140 => (if (bt140.1 != (decide (x7_2 < a0))) = true then (some false) else (bywashlaw18_IdsRise.l0 k2 a0 a1 (wrap64 (2147483647 - (wrap64 (2 * a0)))) (wrap64 (x7_2 + 1)) bt140.2.1 bt140.2.2))) else (some false)) = some r := by rw [if_neg (show ¬ (false = true) by decide)] at H; exact H
                  clear H
                  have H := H1
                  clear H1
                  by_cases c28 : t133 = 0
                  · rw [if_pos c28] at H
                    have c28b0 : (t133 == 0) = true := beq_iff_eq.mpr c28
                    have c28b1 : (t133 != 0) = false := bne_eq_false_iff_eq.mpr c28
                    clear c28
                    replace H := Option.bind_eq_some_iff.mp H
                    obtain ⟨⟨t140, t141, t142⟩, A290, H⟩ := H
                    replace H : (if (t140 != (decide (x7_2 < a0))) = true then (some false) else (bywashlaw18_IdsRise.l0 k2 a0 a1 (wrap64 (2147483647 - (wrap64 (2 * a0)))) (wrap64 (x7_2 + 1)) t141 t142)) = some r := H
                    have A29 := Aside0.mk A290
                    clear A290
                    by_cases c30 : (t140 != (decide (x7_2 < a0))) = true
                    · rw [if_pos c30] at H
                      have c30b0 : (t140 != (decide (x7_2 < a0))) = true := c30
                      (try (have c30b1 : decide (t140 = (decide (x7_2 < a0))) = false := by simpa using c30))
                      (try (have c30b2 : (t140 == (decide (x7_2 < a0))) = false := by simpa using c30))
                      (try (have c30b3 : ¬ (t140 = (decide (x7_2 < a0))) := by simpa using c30))
                      clear c30
                      obtain rfl := Option.some.inj H
                      go_wp2_with (first | ((with_reducible refine gate_callee (f := 8) rfl ?_); refine goesL_ (some 44) rfl rfl Try.func8 (by kernel_rfl) rfl #[.pointer (some ⟨g132, 0, none⟩)] rfl (by (try simp only [List.map_toArray, List.map_cons, List.map_nil]); first | done | rfl | (simp only [List.length_drop, List.length_take]; rfl)) ?_; (with_reducible refine (ids_Ids_Next.calls g132 x133000_2 x133001_2 t133 false t135 t136 w _ ?side1 ?side2 A16.out).mono ?_); (case side1 => repeat (first | (with_reducible first | exact HI132.out | apply IsS35.alloc | apply IsS35.drewN | apply IsS35.drew | apply IsS35.set_0 | apply IsS35.set_1) | exact HI132.out)); (case side2 => repeat (first | (with_reducible first | exact HB.out | apply below_alloc | apply pw_below_drewN | apply below_drew1 | refine below_set ?_ (IsS35.ge HI132.out)) | exact HB.out)); rintro e w31 ⟨rfl, hi, hb, hk⟩; refine ⟨_, rfl, ?_⟩; have n0_ := Aside0.mk (hb); have n1_ := Aside0.mk (hi); clear HB; clear HI132; have HB := n0_; have HI132 := n1_; clear n0_ n1_; (try clear hb); (try clear hb2); (try clear hk); (try clear hi)) | (go_at_call 9; (with_reducible refine (ids_Ids_Left.calls g132 t135 t136 t140 t141 t142 w _ ?side1 ?side2 A29.out).mono ?_); (case side1 => repeat (first | (with_reducible first | exact HI132.out | apply IsS35.alloc | apply IsS35.drewN | apply IsS35.drew | apply IsS35.set_0 | apply IsS35.set_1) | exact HI132.out)); (case side2 => repeat (first | (with_reducible first | exact HB.out | apply below_alloc | apply pw_below_drewN | apply below_drew1 | refine below_set ?_ (IsS35.ge HI132.out)) | exact HB.out)); rintro e w32 ⟨rfl, hi, hb, hk⟩; have n0_ := Aside0.mk (hb); have n1_ := Aside0.mk (hi); clear HB; clear HI132; have HB := n0_; have HI132 := n1_; clear n0_ n1_; (try clear hb); (try clear hb2); (try clear hk); (try clear hi)))
                      go_ret
                      exact ⟨by first | rfl | (simp [errW_none, errW_some] <;> rfl) | (simp [*, errW_none, errW_some] <;> rfl), by repeat (first | (with_reducible first | exact HB.out | apply below_alloc | apply pw_below_drewN | apply below_drew1 | refine below_set ?_ (IsS35.ge HI132.out)) | exact HB.out)⟩
                    · rw [if_neg c30] at H
                      have c30b0 : (t140 != (decide (x7_2 < a0))) = false := by simpa using c30
                      (try (have c30b1 : decide (t140 = (decide (x7_2 < a0))) = true := by simpa using c30))
                      (try (have c30b2 : (t140 == (decide (x7_2 < a0))) = true := by simpa using c30))
                      clear c30
                      have H' := Aside0.mk H
                      clear H
                      go_wp2_with (first | ((with_reducible refine gate_callee (f := 8) rfl ?_); refine goesL_ (some 44) rfl rfl Try.func8 (by kernel_rfl) rfl #[.pointer (some ⟨g132, 0, none⟩)] rfl (by (try simp only [List.map_toArray, List.map_cons, List.map_nil]); first | done | rfl | (simp only [List.length_drop, List.length_take]; rfl)) ?_; (with_reducible refine (ids_Ids_Next.calls g132 x133000_2 x133001_2 t133 false t135 t136 w _ ?side1 ?side2 A16.out).mono ?_); (case side1 => repeat (first | (with_reducible first | exact HI132.out | apply IsS35.alloc | apply IsS35.drewN | apply IsS35.drew | apply IsS35.set_0 | apply IsS35.set_1) | exact HI132.out)); (case side2 => repeat (first | (with_reducible first | exact HB.out | apply below_alloc | apply pw_below_drewN | apply below_drew1 | refine below_set ?_ (IsS35.ge HI132.out)) | exact HB.out)); rintro e w33 ⟨rfl, hi, hb, hk⟩; refine ⟨_, rfl, ?_⟩; have n0_ := Aside0.mk (hb); have n1_ := Aside0.mk (hi); clear HB; clear HI132; have HB := n0_; have HI132 := n1_; clear n0_ n1_; (try clear hb); (try clear hb2); (try clear hk); (try clear hi)) | (go_at_call 9; (with_reducible refine (ids_Ids_Left.calls g132 t135 t136 t140 t141 t142 w _ ?side1 ?side2 A29.out).mono ?_); (case side1 => repeat (first | (with_reducible first | exact HI132.out | apply IsS35.alloc | apply IsS35.drewN | apply IsS35.drew | apply IsS35.set_0 | apply IsS35.set_1) | exact HI132.out)); (case side2 => repeat (first | (with_reducible first | exact HB.out | apply below_alloc | apply pw_below_drewN | apply below_drew1 | refine below_set ?_ (IsS35.ge HI132.out)) | exact HB.out)); rintro e w34 ⟨rfl, hi, hb, hk⟩; have n0_ := Aside0.mk (hb); have n1_ := Aside0.mk (hi); clear HB; clear HI132; have HB := n0_; have HI132 := n1_; clear n0_ n1_; (try clear hb); (try clear hb2); (try clear hk); (try clear hi)))
                      go_roundg k2
                      case measure => have := HJ2.out; have := HK2.out; omega
                      case rel => exact ⟨(wrap64 (x7_2 + 1)), (t141), (t142), (by first | rfl | (simp; done) | (simp [*]; done)), H', ⟨by have := HJ2.out; have := HK2.out; omega⟩, ⟨by repeat (first | (with_reducible first | exact HI132.out | apply IsS35.alloc | apply IsS35.drewN | apply IsS35.drew | apply IsS35.set_0 | apply IsS35.set_1) | exact HI132.out)⟩, ⟨by repeat (first | (with_reducible first | exact HB.out | apply below_alloc | apply pw_below_drewN | apply below_drew1 | refine below_set ?_ (IsS35.ge HI132.out)) | exact HB.out)⟩⟩
                  · rw [if_neg c28] at H
                    have c28b0 : (t133 == 0) = false := beq_eq_false_iff_ne.mpr c28
                    have c28b1 : (t133 != 0) = true := bne_iff_ne.mpr c28
                    obtain rfl := Option.some.inj H
                    go_wp2_with (first | ((with_reducible refine gate_callee (f := 8) rfl ?_); refine goesL_ (some 44) rfl rfl Try.func8 (by kernel_rfl) rfl #[.pointer (some ⟨g132, 0, none⟩)] rfl (by (try simp only [List.map_toArray, List.map_cons, List.map_nil]); first | done | rfl | (simp only [List.length_drop, List.length_take]; rfl)) ?_; (with_reducible refine (ids_Ids_Next.calls g132 x133000_2 x133001_2 t133 false t135 t136 w _ ?side1 ?side2 A16.out).mono ?_); (case side1 => repeat (first | (with_reducible first | exact HI132.out | apply IsS35.alloc | apply IsS35.drewN | apply IsS35.drew | apply IsS35.set_0 | apply IsS35.set_1) | exact HI132.out)); (case side2 => repeat (first | (with_reducible first | exact HB.out | apply below_alloc | apply pw_below_drewN | apply below_drew1 | refine below_set ?_ (IsS35.ge HI132.out)) | exact HB.out)); rintro e w35 ⟨rfl, hi, hb, hk⟩; refine ⟨_, rfl, ?_⟩; have n0_ := Aside0.mk (hb); have n1_ := Aside0.mk (hi); clear HB; clear HI132; have HB := n0_; have HI132 := n1_; clear n0_ n1_; (try clear hb); (try clear hb2); (try clear hk); (try clear hi)))
                    go_ret
                    exact ⟨by first | rfl | (simp [errW_none, errW_some] <;> rfl) | (simp [*, errW_none, errW_some] <;> rfl), by repeat (first | (with_reducible first | exact HB.out | apply below_alloc | apply pw_below_drewN | apply below_drew1 | refine below_set ?_ (IsS35.ge HI132.out)) | exact HB.out)⟩
            · rw [if_neg c15] at H
              have c15b0 : decide (x7_2 < a1) = false := decide_eq_false c15
              clear c15
              have H' := Aside0.mk H
              clear H
              go_wp2
              go_loopg [10] k2 (fun kq v10 w' => ∃ (x10_3 : Int) (x133000_3 : Int) (x133001_3 : Int), v10 = .int .i64 x10_3 ∧ Aside0 (bywashlaw18_IdsRise.l1 kq a0 a1 (wrap64 (2147483647 - (wrap64 (2 * a0)))) x10_3 x133000_3 x133001_3 = some r) ∧ Aside0 (kq ≤ k2) ∧ Aside0 (IsS35 w w' g132 x133000_3 x133001_3) ∧ Aside0 (Below w.heap.size w w'))
              case atStart => exact ⟨(0), (x133000_2), (x133001_2), (by first | rfl | (simp; done) | (simp [*]; done)), H', ⟨Nat.le_refl _⟩, ⟨by repeat (first | (with_reducible first | exact HI132.out | apply IsS35.alloc | apply IsS35.drewN | apply IsS35.drew | apply IsS35.set_0 | apply IsS35.set_1) | exact HI132.out)⟩, ⟨by repeat (first | (with_reducible first | exact HB.out | apply below_alloc | apply pw_below_drewN | apply below_drew1 | refine below_set ?_ (IsS35.ge HI132.out)) | exact HB.out)⟩⟩
              case round =>
                clear H'
                try clear c1
                try clear c2
                try clear p2
                try clear c3
                try clear c4
                try clear c4b0
                try clear c5
                try clear c5b0
                try clear c6
                try clear c6b0
                try clear p6
                try clear c7
                try clear c7b0
                try clear c8
                try clear c10
                try clear c15
                try clear c15b0
                try clear c17
                try clear c17b0
                try clear c17b1
                try clear c17b2
                try clear c19
                try clear c20
                try clear c20b0
                try clear c20b1
                try clear c22
                try clear c22b0
                try clear c22b1
                try clear c22b2
                try clear c28
                try clear c28b0
                try clear c28b1
                try clear c30
                try clear c30b0
                try clear c30b1
                try clear c30b2
                try clear p2
                try clear p6
                obtain ⟨x10_3, x133000_3, x133001_3, rfl, HA, HK3, HI132, HB⟩ := hrel
                cases gk with
                | zero => exact absurd HA.out (by simp [bywashlaw18_IdsRise.l1])
                | succ k3 =>
                  have H := HA.out
                  clear HA
                  simp only [bywashlaw18_IdsRise.l1] at H
                  by_cases c36 : x10_3 ≤ a0
                  · rw [if_pos c36] at H
                    have c36b0 : decide (x10_3 ≤ a0) = true := decide_eq_true c36
                    clear c36
                    replace H := Option.bind_eq_some_iff.mp H
                    obtain ⟨⟨t143, t144, t145⟩, A370, H⟩ := H
                    replace H : (if ((t143 == 1) != (decide (x10_3 < a1))) = true then (some false) else (bywashlaw18_IdsRise.l1 k3 a0 a1 (wrap64 (2147483647 - (wrap64 (2 * a0)))) (wrap64 (x10_3 + 1)) t144 t145)) = some r := H
                    have A37 := Aside0.mk A370
                    clear A370
                    by_cases c38 : ((t143 == 1) != (decide (x10_3 < a1))) = true
                    · rw [if_pos c38] at H
                      have c38b0 : ((t143 == 1) != (decide (x10_3 < a1))) = true := c38
                      (try (have c38b1 : decide ((t143 == 1) = (decide (x10_3 < a1))) = false := by simpa using c38))
                      (try (have c38b2 : ((t143 == 1) == (decide (x10_3 < a1))) = false := by simpa using c38))
                      (try (have c38b3 : ¬ ((t143 == 1) = (decide (x10_3 < a1))) := by simpa using c38))
                      clear c38
                      obtain rfl := Option.some.inj H
                      go_wp2_with (first | ((with_reducible refine gate_callee (f := 10) rfl ?_); refine goesL_ (some 89) rfl rfl Try.func10 (by kernel_rfl) rfl #[.pointer (some ⟨g132, 0, none⟩), .int .i64 (wrap64 ((wrap64 (2147483647 - (wrap64 (2 * a0)))) + (wrap64 (2 * x10_3))))] rfl (by (try simp only [List.map_toArray, List.map_cons, List.map_nil]); first | done | rfl | (simp only [List.length_drop, List.length_take]; rfl)) ?_; (with_reducible refine (ids_Ids_Kind.calls k3 g132 x133000_3 x133001_3 (wrap64 ((wrap64 (2147483647 - (wrap64 (2 * a0)))) + (wrap64 (2 * x10_3)))) t143 t144 t145 w _ ?side1 ?side2 A37.out).mono ?_); (case side1 => repeat (first | (with_reducible first | exact HI132.out | apply IsS35.alloc | apply IsS35.drewN | apply IsS35.drew | apply IsS35.set_0 | apply IsS35.set_1) | exact HI132.out)); (case side2 => repeat (first | (with_reducible first | exact HB.out | apply below_alloc | apply pw_below_drewN | apply below_drew1 | refine below_set ?_ (IsS35.ge HI132.out)) | exact HB.out)); rintro e w39 ⟨rfl, hi, hb, hk⟩; refine ⟨_, rfl, ?_⟩; have n0_ := Aside0.mk (hb); have n1_ := Aside0.mk (hi); clear HB; clear HI132; have HB := n0_; have HI132 := n1_; clear n0_ n1_; (try clear hb); (try clear hb2); (try clear hk); (try clear hi)))
                      go_ret
                      exact ⟨by first | rfl | (simp [errW_none, errW_some] <;> rfl) | (simp [*, errW_none, errW_some] <;> rfl), by repeat (first | (with_reducible first | exact HB.out | apply below_alloc | apply pw_below_drewN | apply below_drew1 | refine below_set ?_ (IsS35.ge HI132.out)) | exact HB.out)⟩
                    · rw [if_neg c38] at H
                      have c38b0 : ((t143 == 1) != (decide (x10_3 < a1))) = false := by simpa using c38
                      (try (have c38b1 : decide ((t143 == 1) = (decide (x10_3 < a1))) = true := by simpa using c38))
                      (try (have c38b2 : ((t143 == 1) == (decide (x10_3 < a1))) = true := by simpa using c38))
                      clear c38
                      have H' := Aside0.mk H
                      clear H
                      go_wp2_with (first | ((with_reducible refine gate_callee (f := 10) rfl ?_); refine goesL_ (some 89) rfl rfl Try.func10 (by kernel_rfl) rfl #[.pointer (some ⟨g132, 0, none⟩), .int .i64 (wrap64 ((wrap64 (2147483647 - (wrap64 (2 * a0)))) + (wrap64 (2 * x10_3))))] rfl (by (try simp only [List.map_toArray, List.map_cons, List.map_nil]); first | done | rfl | (simp only [List.length_drop, List.length_take]; rfl)) ?_; (with_reducible refine (ids_Ids_Kind.calls k3 g132 x133000_3 x133001_3 (wrap64 ((wrap64 (2147483647 - (wrap64 (2 * a0)))) + (wrap64 (2 * x10_3)))) t143 t144 t145 w _ ?side1 ?side2 A37.out).mono ?_); (case side1 => repeat (first | (with_reducible first | exact HI132.out | apply IsS35.alloc | apply IsS35.drewN | apply IsS35.drew | apply IsS35.set_0 | apply IsS35.set_1) | exact HI132.out)); (case side2 => repeat (first | (with_reducible first | exact HB.out | apply below_alloc | apply pw_below_drewN | apply below_drew1 | refine below_set ?_ (IsS35.ge HI132.out)) | exact HB.out)); rintro e w40 ⟨rfl, hi, hb, hk⟩; refine ⟨_, rfl, ?_⟩; have n0_ := Aside0.mk (hb); have n1_ := Aside0.mk (hi); clear HB; clear HI132; have HB := n0_; have HI132 := n1_; clear n0_ n1_; (try clear hb); (try clear hb2); (try clear hk); (try clear hi)))
                      go_roundg k3
                      case measure => have := HJ2.out; have := HK2.out; have := HK3.out; omega
                      case rel => exact ⟨(wrap64 (x10_3 + 1)), (t144), (t145), (by first | rfl | (simp; done) | (simp [*]; done)), H', ⟨by have := HJ2.out; have := HK2.out; have := HK3.out; omega⟩, ⟨by repeat (first | (with_reducible first | exact HI132.out | apply IsS35.alloc | apply IsS35.drewN | apply IsS35.drew | apply IsS35.set_0 | apply IsS35.set_1) | exact HI132.out)⟩, ⟨by repeat (first | (with_reducible first | exact HB.out | apply below_alloc | apply pw_below_drewN | apply below_drew1 | refine below_set ?_ (IsS35.ge HI132.out)) | exact HB.out)⟩⟩
                  · rw [if_neg c36] at H
                    have c36b0 : decide (x10_3 ≤ a0) = false := decide_eq_false c36
                    clear c36
                    replace H := Option.bind_eq_some_iff.mp H
                    obtain ⟨⟨t146, t147, t148⟩, A410, H⟩ := H
                    replace H : (if t146 = 0 then ((ids_Ids_Kind.f k3 t147 t148 0).bind fun bt149 => (if bt149.1 = 0 then ((ids_Ids_Kind.f k3 bt149.2.1 bt149.2.2 2147483649).bind fun bt152 => (some (bt152.1 == 0))) else (some false))) else (some false)) = some r := H
                    have A41 := Aside0.mk A410
                    clear A410
                    by_cases c42 : t146 = 0
                    · rw [if_pos c42] at H
                      have c42b0 : (t146 == 0) = true := beq_iff_eq.mpr c42
                      have c42b1 : (t146 != 0) = false := bne_eq_false_iff_eq.mpr c42
                      clear c42
                      replace H := Option.bind_eq_some_iff.mp H
                      obtain ⟨⟨t149, t150, t151⟩, A430, H⟩ := H
                      replace H : (if t149 = 0 then ((ids_Ids_Kind.f k3 t150 t151 2147483649).bind fun bt152 => (some (bt152.1 == 0))) else (some false)) = some r := H
                      have A43 := Aside0.mk A430
                      clear A430
                      by_cases c44 : t149 = 0
                      · rw [if_pos c44] at H
                        have c44b0 : (t149 == 0) = true := beq_iff_eq.mpr c44
                        have c44b1 : (t149 != 0) = false := bne_eq_false_iff_eq.mpr c44
                        clear c44
                        replace H := Option.bind_eq_some_iff.mp H
                        obtain ⟨⟨t152, t153, t154⟩, A450, H⟩ := H
                        replace H : (some (t152 == 0)) = some r := H
                        have A45 := Aside0.mk A450
                        clear A450
                        obtain rfl := Option.some.inj H
                        go_wp2_with (first | ((with_reducible refine gate_callee (f := 10) rfl ?_); refine goesL_ (some 98) rfl rfl Try.func10 (by kernel_rfl) rfl #[.pointer (some ⟨g132, 0, none⟩), .int .i64 (wrap64 ((wrap64 (2147483647 - (wrap64 (2 * a0)))) - 1))] rfl (by (try simp only [List.map_toArray, List.map_cons, List.map_nil]); first | done | rfl | (simp only [List.length_drop, List.length_take]; rfl)) ?_; (with_reducible refine (ids_Ids_Kind.calls k3 g132 x133000_3 x133001_3 (wrap64 ((wrap64 (2147483647 - (wrap64 (2 * a0)))) - 1)) t146 t147 t148 w _ ?side1 ?side2 A41.out).mono ?_); (case side1 => repeat (first | (with_reducible first | exact HI132.out | apply IsS35.alloc | apply IsS35.drewN | apply IsS35.drew | apply IsS35.set_0 | apply IsS35.set_1) | exact HI132.out)); (case side2 => repeat (first | (with_reducible first | exact HB.out | apply below_alloc | apply pw_below_drewN | apply below_drew1 | refine below_set ?_ (IsS35.ge HI132.out)) | exact HB.out)); rintro e w46 ⟨rfl, hi, hb, hk⟩; refine ⟨_, rfl, ?_⟩; have n0_ := Aside0.mk (hb); have n1_ := Aside0.mk (hi); clear HB; clear HI132; have HB := n0_; have HI132 := n1_; clear n0_ n1_; (try clear hb); (try clear hb2); (try clear hk); (try clear hi)) | (go_at_call 10; (with_reducible refine (ids_Ids_Kind.calls k3 g132 t147 t148 0 t149 t150 t151 w _ ?side1 ?side2 A43.out).mono ?_); (case side1 => repeat (first | (with_reducible first | exact HI132.out | apply IsS35.alloc | apply IsS35.drewN | apply IsS35.drew | apply IsS35.set_0 | apply IsS35.set_1) | exact HI132.out)); (case side2 => repeat (first | (with_reducible first | exact HB.out | apply below_alloc | apply pw_below_drewN | apply below_drew1 | refine below_set ?_ (IsS35.ge HI132.out)) | exact HB.out)); rintro e w47 ⟨rfl, hi, hb, hk⟩; have n0_ := Aside0.mk (hb); have n1_ := Aside0.mk (hi); clear HB; clear HI132; have HB := n0_; have HI132 := n1_; clear n0_ n1_; (try clear hb); (try clear hb2); (try clear hk); (try clear hi)) | (go_at_call 10; (with_reducible refine (ids_Ids_Kind.calls k3 g132 t150 t151 2147483649 t152 t153 t154 w _ ?side1 ?side2 A45.out).mono ?_); (case side1 => repeat (first | (with_reducible first | exact HI132.out | apply IsS35.alloc | apply IsS35.drewN | apply IsS35.drew | apply IsS35.set_0 | apply IsS35.set_1) | exact HI132.out)); (case side2 => repeat (first | (with_reducible first | exact HB.out | apply below_alloc | apply pw_below_drewN | apply below_drew1 | refine below_set ?_ (IsS35.ge HI132.out)) | exact HB.out)); rintro e w48 ⟨rfl, hi, hb, hk⟩; have n0_ := Aside0.mk (hb); have n1_ := Aside0.mk (hi); clear HB; clear HI132; have HB := n0_; have HI132 := n1_; clear n0_ n1_; (try clear hb); (try clear hb2); (try clear hk); (try clear hi)))
                        go_ret
                        exact ⟨by first | rfl | (simp [errW_none, errW_some] <;> rfl) | (simp [*, errW_none, errW_some] <;> rfl), by repeat (first | (with_reducible first | exact HB.out | apply below_alloc | apply pw_below_drewN | apply below_drew1 | refine below_set ?_ (IsS35.ge HI132.out)) | exact HB.out)⟩
                      · rw [if_neg c44] at H
                        have c44b0 : (t149 == 0) = false := beq_eq_false_iff_ne.mpr c44
                        have c44b1 : (t149 != 0) = true := bne_iff_ne.mpr c44
                        obtain rfl := Option.some.inj H
                        go_wp2_with (first | ((with_reducible refine gate_callee (f := 10) rfl ?_); refine goesL_ (some 98) rfl rfl Try.func10 (by kernel_rfl) rfl #[.pointer (some ⟨g132, 0, none⟩), .int .i64 (wrap64 ((wrap64 (2147483647 - (wrap64 (2 * a0)))) - 1))] rfl (by (try simp only [List.map_toArray, List.map_cons, List.map_nil]); first | done | rfl | (simp only [List.length_drop, List.length_take]; rfl)) ?_; (with_reducible refine (ids_Ids_Kind.calls k3 g132 x133000_3 x133001_3 (wrap64 ((wrap64 (2147483647 - (wrap64 (2 * a0)))) - 1)) t146 t147 t148 w _ ?side1 ?side2 A41.out).mono ?_); (case side1 => repeat (first | (with_reducible first | exact HI132.out | apply IsS35.alloc | apply IsS35.drewN | apply IsS35.drew | apply IsS35.set_0 | apply IsS35.set_1) | exact HI132.out)); (case side2 => repeat (first | (with_reducible first | exact HB.out | apply below_alloc | apply pw_below_drewN | apply below_drew1 | refine below_set ?_ (IsS35.ge HI132.out)) | exact HB.out)); rintro e w49 ⟨rfl, hi, hb, hk⟩; refine ⟨_, rfl, ?_⟩; have n0_ := Aside0.mk (hb); have n1_ := Aside0.mk (hi); clear HB; clear HI132; have HB := n0_; have HI132 := n1_; clear n0_ n1_; (try clear hb); (try clear hb2); (try clear hk); (try clear hi)) | (go_at_call 10; (with_reducible refine (ids_Ids_Kind.calls k3 g132 t147 t148 0 t149 t150 t151 w _ ?side1 ?side2 A43.out).mono ?_); (case side1 => repeat (first | (with_reducible first | exact HI132.out | apply IsS35.alloc | apply IsS35.drewN | apply IsS35.drew | apply IsS35.set_0 | apply IsS35.set_1) | exact HI132.out)); (case side2 => repeat (first | (with_reducible first | exact HB.out | apply below_alloc | apply pw_below_drewN | apply below_drew1 | refine below_set ?_ (IsS35.ge HI132.out)) | exact HB.out)); rintro e w50 ⟨rfl, hi, hb, hk⟩; have n0_ := Aside0.mk (hb); have n1_ := Aside0.mk (hi); clear HB; clear HI132; have HB := n0_; have HI132 := n1_; clear n0_ n1_; (try clear hb); (try clear hb2); (try clear hk); (try clear hi)))
                        go_ret
                        exact ⟨by first | rfl | (simp [errW_none, errW_some] <;> rfl) | (simp [*, errW_none, errW_some] <;> rfl), by repeat (first | (with_reducible first | exact HB.out | apply below_alloc | apply pw_below_drewN | apply below_drew1 | refine below_set ?_ (IsS35.ge HI132.out)) | exact HB.out)⟩
                    · rw [if_neg c42] at H
                      have c42b0 : (t146 == 0) = false := beq_eq_false_iff_ne.mpr c42
                      have c42b1 : (t146 != 0) = true := bne_iff_ne.mpr c42
                      obtain rfl := Option.some.inj H
                      go_wp2_with (first | ((with_reducible refine gate_callee (f := 10) rfl ?_); refine goesL_ (some 98) rfl rfl Try.func10 (by kernel_rfl) rfl #[.pointer (some ⟨g132, 0, none⟩), .int .i64 (wrap64 ((wrap64 (2147483647 - (wrap64 (2 * a0)))) - 1))] rfl (by (try simp only [List.map_toArray, List.map_cons, List.map_nil]); first | done | rfl | (simp only [List.length_drop, List.length_take]; rfl)) ?_; (with_reducible refine (ids_Ids_Kind.calls k3 g132 x133000_3 x133001_3 (wrap64 ((wrap64 (2147483647 - (wrap64 (2 * a0)))) - 1)) t146 t147 t148 w _ ?side1 ?side2 A41.out).mono ?_); (case side1 => repeat (first | (with_reducible first | exact HI132.out | apply IsS35.alloc | apply IsS35.drewN | apply IsS35.drew | apply IsS35.set_0 | apply IsS35.set_1) | exact HI132.out)); (case side2 => repeat (first | (with_reducible first | exact HB.out | apply below_alloc | apply pw_below_drewN | apply below_drew1 | refine below_set ?_ (IsS35.ge HI132.out)) | exact HB.out)); rintro e w51 ⟨rfl, hi, hb, hk⟩; refine ⟨_, rfl, ?_⟩; have n0_ := Aside0.mk (hb); have n1_ := Aside0.mk (hi); clear HB; clear HI132; have HB := n0_; have HI132 := n1_; clear n0_ n1_; (try clear hb); (try clear hb2); (try clear hk); (try clear hi)))
                      go_ret
                      exact ⟨by first | rfl | (simp [errW_none, errW_some] <;> rfl) | (simp [*, errW_none, errW_some] <;> rfl), by repeat (first | (with_reducible first | exact HB.out | apply below_alloc | apply pw_below_drewN | apply below_drew1 | refine below_set ?_ (IsS35.ge HI132.out)) | exact HB.out)⟩

/-- THE ONE PURE STATEMENT of bywashlaw18_IdsRise: yours. -/
def bywashlaw18_IdsRise.Pure : Prop := ∀ (a0 : Int) (a1 : Int), (Lit.int .i64 a0).wf = true → (Lit.int .i64 a1).wf = true → ∃ k, bywashlaw18_IdsRise.f k a0 a1 = some true
theorem bywashlaw18_IdsRise.walk (P : bywashlaw18_IdsRise.Pure) (a0 : Int) (a1 : Int) (w : World) (w0 : (Lit.int .i64 a0).wf = true) (w1 : (Lit.int .i64 a1).wf = true) :
    Calls Try.prog 4 #[.int .i64 a0, .int .i64 a1] w fun e w' => e = .returned (.bool true) ∧ Below w.heap.size w w' := by
  obtain ⟨k, h⟩ := P a0 a1 w0 w1
  refine (bywashlaw18_IdsRise.calls k a0 a1 true w h).mono ?_
  rintro e w' ⟨rfl, hd⟩
  exact ⟨rfl, hd⟩

end Go.Proofs.Ytjfcckhcmgbjjaa.PIdsRise
