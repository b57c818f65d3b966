-- Written by a program of this session (the kit's printer, turned): the functions that the law reaches.
import Derived.Test.YtkakcalabpobpaaPPingGonex0
import Derived.Test.YtkakcalabpobpaaPPingGonex1
namespace Go.Proofs.Ytkakcalabpobpaa.PPingGone
open Go.RowKit Go.Proofs.YtkakcalabpobpaaW.PrintWords Go.Proofs.YtkakcalabpobpaaW.PrintLast Go.Proofs.YtkakcalabpobpaaW.PrintMore
attribute [local go_sem] max2_int min2_int max_two min_two max_three min_three max_four min_four   -- for this text's walks alone
set_option linter.unusedVariables false
set_option linter.unusedSimpArgs false

theorem bne_nil_ (l : List UInt8) : (l != ([] : List UInt8)) = !l.isEmpty := by cases l <;> rfl

/-! ### bywashlaw17_PingGone: function 4 -/
mutual
def bywashlaw17_PingGone.j0 : Nat → Int → Int → Int → Bool → Option (Bool)
  | 0, _, _, _, _ => none
  | k + 1, x0, x1, x2, x42 => if x42 = true then ((bywashlaw17_alive.f k).bind fun t170 => (some t170)) else ((ping_New.f x0 x1).bind fun bt171 => (bywashlaw17_PingGone.l0 k x0 x1 x2 (⟨#[]⟩ : ByteArray) 1 bt171.1 bt171.2.1 bt171.2.2.1 bt171.2.2.2.1 bt171.2.2.2.2.1 bt171.2.2.2.2.2))
def bywashlaw17_PingGone.l0 : Nat → Int → Int → Int → ByteArray → Int → Int → Int → Int → Int → Bool → Bool → Option (Bool)
  | 0, _, _, _, _, _, _, _, _, _, _, _ => none
  | k + 1, x0, x1, x2, x8, x9, x178000, x178001, x178002, x178003, x178004, x178005 => if x9 ≤ x0 then ((ping_Health_Tick.f k x178000 x178001 x178002 x178003 x178004 x178005).bind fun bt178 => (if bt178.2.1 = true then (some false) else (if ((bt178.1.toList != ([] : List UInt8)) != (x9 == x0)) = true then (some false) else (bywashlaw17_PingGone.l0 k x0 x1 x2 bt178.1 (wrap64 (x9 + 1)) bt178.2.2.1 bt178.2.2.2.1 bt178.2.2.2.2.1 bt178.2.2.2.2.2.1 bt178.2.2.2.2.2.2.1 bt178.2.2.2.2.2.2.2)))) else (bywashlaw17_PingGone.l1 k x1 x2 x8 1 x178000 x178001 x178002 x178003 x178004 x178005)
def bywashlaw17_PingGone.l1 : Nat → Int → Int → ByteArray → Int → Int → Int → Int → Int → Bool → Bool → Option (Bool)
  | 0, _, _, _, _, _, _, _, _, _, _ => none
  | k + 1, x1, x2, x8, x12, x178000, x178001, x178002, x178003, x178004, x178005 => if x12 ≤ x1 then (if x12 = x2 then ((ping_Health_Got.f k x178000 x178001 x178002 x178003 x178004 x178005 x8).bind fun bt201 => (if bt201.1 = true then ((ping_Health_Waits.f bt201.2.1 bt201.2.2.1 bt201.2.2.2.1 bt201.2.2.2.2.1 bt201.2.2.2.2.2.1 bt201.2.2.2.2.2.2).bind fun bt208 => (if bt208.1 = true then (some false) else ((ping_Health_Got.f k bt208.2.1 bt208.2.2.1 bt208.2.2.2.1 bt208.2.2.2.2.1 bt208.2.2.2.2.2.1 bt208.2.2.2.2.2.2 x8).bind fun bt215 => (some (!bt215.1))))) else (some false))) else ((ping_Health_Tick.f k x178000 x178001 x178002 x178003 x178004 x178005).bind fun bt222 => (if bt222.1.toList = ([] : List UInt8) then (if (bt222.2.1 != (x12 == x1)) = true then (some false) else (bywashlaw17_PingGone.l1 k x1 x2 x8 (wrap64 (x12 + 1)) bt222.2.2.1 bt222.2.2.2.1 bt222.2.2.2.2.1 bt222.2.2.2.2.2.1 bt222.2.2.2.2.2.2.1 bt222.2.2.2.2.2.2.2)) else (some false)))) else ((ping_Health_Tick.f k x178000 x178001 x178002 x178003 x178004 x178005).bind fun bt186 => (if bt186.2.1 = true then ((ping_Health_Got.f k bt186.2.2.1 bt186.2.2.2.1 bt186.2.2.2.2.1 bt186.2.2.2.2.2.1 bt186.2.2.2.2.2.2.1 bt186.2.2.2.2.2.2.2 x8).bind fun bt194 => (some (!bt194.1))) else (some false)))
end
def bywashlaw17_PingGone.f (k : Nat) (a0 : Int) (a1 : Int) (a2 : Int) : Option (Bool) := if a0 < 1 then (bywashlaw17_PingGone.j0 k a0 a1 a2 true) else (if a1 < 1 then (bywashlaw17_PingGone.j0 k a0 a1 a2 true) else (if a0 > 100 then (bywashlaw17_PingGone.j0 k a0 a1 a2 true) else (if a1 > 100 then (bywashlaw17_PingGone.j0 k a0 a1 a2 true) else (if a2 < 0 then (bywashlaw17_PingGone.j0 k a0 a1 a2 true) else (if a2 > 100 then (bywashlaw17_PingGone.j0 k a0 a1 a2 true) else ((bywashlaw17_alive.f k).bind fun t169 => (bywashlaw17_PingGone.j0 k a0 a1 a2 (!t169))))))))
theorem bywashlaw17_PingGone.mono_l : ∀ k, (∀ y0 y1 y2 y3, LeO (bywashlaw17_PingGone.j0 k y0 y1 y2 y3) (bywashlaw17_PingGone.j0 (k + 1) y0 y1 y2 y3)) ∧ (∀ y0 y1 y2 y3 y4 y5 y6 y7 y8 y9 y10, LeO (bywashlaw17_PingGone.l0 k y0 y1 y2 y3 y4 y5 y6 y7 y8 y9 y10) (bywashlaw17_PingGone.l0 (k + 1) y0 y1 y2 y3 y4 y5 y6 y7 y8 y9 y10)) ∧ (∀ y0 y1 y2 y3 y4 y5 y6 y7 y8 y9, LeO (bywashlaw17_PingGone.l1 k y0 y1 y2 y3 y4 y5 y6 y7 y8 y9) (bywashlaw17_PingGone.l1 (k + 1) y0 y1 y2 y3 y4 y5 y6 y7 y8 y9))
  | 0 => ⟨fun _ _ _ _ r h => by simp [bywashlaw17_PingGone.j0] at h, fun _ _ _ _ _ _ _ _ _ _ _ r h => by simp [bywashlaw17_PingGone.l0] at h, fun _ _ _ _ _ _ _ _ _ _ r h => by simp [bywashlaw17_PingGone.l1] at h⟩
  | k + 1 => by
    obtain ⟨ih0, ih1, ih2⟩ := bywashlaw17_PingGone.mono_l k
    refine ⟨?_, ?_, ?_⟩
    · intro y0 y1 y2 y3
      unfold bywashlaw17_PingGone.j0
      repeat' first
      | (with_reducible exact ih0 _ _ _ _)
      | (with_reducible exact ih1 _ _ _ _ _ _ _ _ _ _ _)
      | (with_reducible exact ih2 _ _ _ _ _ _ _ _ _ _)
      | (with_reducible exact bywashlaw17_alive.mono _)
      | (with_reducible exact ping_Health_Got.mono _ _ _ _ _ _ _ _)
      | (with_reducible exact ping_Health_Tick.mono _ _ _ _ _ _ _)
      | (with_reducible exact LeO.refl _)
      | (with_reducible exact LeO.none _)
      | (with_reducible refine LeO.ite ?_ ?_)
      | (with_reducible refine LeO.bind ?_ (fun _ => ?_))
      | exact ih0 _ _ _ _
      | exact ih1 _ _ _ _ _ _ _ _ _ _ _
      | exact ih2 _ _ _ _ _ _ _ _ _ _
      | exact bywashlaw17_alive.mono _
      | exact ping_Health_Got.mono _ _ _ _ _ _ _ _
      | exact ping_Health_Tick.mono _ _ _ _ _ _ _
      | exact LeO.none _
      | refine LeO.ite ?_ ?_
      | refine LeO.bind ?_ (fun _ => ?_)
    · intro y0 y1 y2 y3 y4 y5 y6 y7 y8 y9 y10
      unfold bywashlaw17_PingGone.l0
      repeat' first
      | (with_reducible exact ih0 _ _ _ _)
      | (with_reducible exact ih1 _ _ _ _ _ _ _ _ _ _ _)
      | (with_reducible exact ih2 _ _ _ _ _ _ _ _ _ _)
      | (with_reducible exact bywashlaw17_alive.mono _)
      | (with_reducible exact ping_Health_Got.mono _ _ _ _ _ _ _ _)
      | (with_reducible exact ping_Health_Tick.mono _ _ _ _ _ _ _)
      | (with_reducible exact LeO.refl _)
      | (with_reducible exact LeO.none _)
      | (with_reducible refine LeO.ite ?_ ?_)
      | (with_reducible refine LeO.bind ?_ (fun _ => ?_))
      | exact ih0 _ _ _ _
      | exact ih1 _ _ _ _ _ _ _ _ _ _ _
      | exact ih2 _ _ _ _ _ _ _ _ _ _
      | exact bywashlaw17_alive.mono _
      | exact ping_Health_Got.mono _ _ _ _ _ _ _ _
      | exact ping_Health_Tick.mono _ _ _ _ _ _ _
      | exact LeO.none _
      | refine LeO.ite ?_ ?_
      | refine LeO.bind ?_ (fun _ => ?_)
    · intro y0 y1 y2 y3 y4 y5 y6 y7 y8 y9
      unfold bywashlaw17_PingGone.l1
      repeat' first
      | (with_reducible exact ih0 _ _ _ _)
      | (with_reducible exact ih1 _ _ _ _ _ _ _ _ _ _ _)
      | (with_reducible exact ih2 _ _ _ _ _ _ _ _ _ _)
      | (with_reducible exact bywashlaw17_alive.mono _)
      | (with_reducible exact ping_Health_Got.mono _ _ _ _ _ _ _ _)
      | (with_reducible exact ping_Health_Tick.mono _ _ _ _ _ _ _)
      | (with_reducible exact LeO.refl _)
      | (with_reducible exact LeO.none _)
      | (with_reducible refine LeO.ite ?_ ?_)
      | (with_reducible refine LeO.bind ?_ (fun _ => ?_))
      | exact ih0 _ _ _ _
      | exact ih1 _ _ _ _ _ _ _ _ _ _ _
      | exact ih2 _ _ _ _ _ _ _ _ _ _
      | exact bywashlaw17_alive.mono _
      | exact ping_Health_Got.mono _ _ _ _ _ _ _ _
      | exact ping_Health_Tick.mono _ _ _ _ _ _ _
      | exact LeO.none _
      | refine LeO.ite ?_ ?_
      | refine LeO.bind ?_ (fun _ => ?_)
theorem bywashlaw17_PingGone.mono : ∀ a0 a1 a2 k, LeO (bywashlaw17_PingGone.f k a0 a1 a2) (bywashlaw17_PingGone.f (k + 1) a0 a1 a2) := by
  intro a0 a1 a2 k
  obtain ⟨ih0, ih1, ih2⟩ := bywashlaw17_PingGone.mono_l k
  unfold bywashlaw17_PingGone.f
  repeat' first
      | (with_reducible exact ih0 _ _ _ _)
      | (with_reducible exact ih1 _ _ _ _ _ _ _ _ _ _ _)
      | (with_reducible exact ih2 _ _ _ _ _ _ _ _ _ _)
      | (with_reducible exact bywashlaw17_alive.mono _)
      | (with_reducible exact ping_Health_Got.mono _ _ _ _ _ _ _ _)
      | (with_reducible exact ping_Health_Tick.mono _ _ _ _ _ _ _)
      | (with_reducible exact LeO.refl _)
      | (with_reducible exact LeO.none _)
      | (with_reducible refine LeO.ite ?_ ?_)
      | (with_reducible refine LeO.bind ?_ (fun _ => ?_))
      | exact ih0 _ _ _ _
      | exact ih1 _ _ _ _ _ _ _ _ _ _ _
      | exact ih2 _ _ _ _ _ _ _ _ _ _
      | exact bywashlaw17_alive.mono _
      | exact ping_Health_Got.mono _ _ _ _ _ _ _ _
      | exact ping_Health_Tick.mono _ _ _ _ _ _ _
      | exact LeO.none _
      | refine LeO.ite ?_ ?_
      | refine LeO.bind ?_ (fun _ => ?_)
set_option maxHeartbeats 8000000 in
set_option maxRecDepth 100000 in
theorem bywashlaw17_PingGone.calls (k : Nat) (a0 : Int) (a1 : Int) (a2 : Int) (r : Bool) (w : World) (h : bywashlaw17_PingGone.f k a0 a1 a2 = some r) :
    Calls Try.prog 4 #[.int .i64 a0, .int .i64 a1, .int .i64 a2] w fun e w' => e = .returned (.bool r) ∧ Below w.heap.size w w' := by
  have HB := Aside0.mk (Below.refl w.heap.size w)
  have H : (if a0 < 1 then (bywashlaw17_PingGone.j0 k a0 a1 a2 true) else (if a1 < 1 then (bywashlaw17_PingGone.j0 k a0 a1 a2 true) else (if a0 > 100 then (bywashlaw17_PingGone.j0 k a0 a1 a2 true) else (if a1 > 100 then (bywashlaw17_PingGone.j0 k a0 a1 a2 true) else (if a2 < 0 then (bywashlaw17_PingGone.j0 k a0 a1 a2 true) else (if a2 > 100 then (bywashlaw17_PingGone.j0 k a0 a1 a2 true) else ((bywashlaw17_alive.f k).bind fun t169 => (bywashlaw17_PingGone.j0 k a0 a1 a2 (!t169))))))))) = some r := h
  clear h
  have HC4 := Aside0.mk H
  clear H
  go_enter Try.func4, Try.ntmps4
  go_upto_region 1 with (fail)
  go_cut [42] (fun v42 wc => ∃ (kq : Nat) (x42_3 : Bool), v42 = .bool x42_3 ∧ Aside0 (bywashlaw17_PingGone.j0 kq a0 a1 a2 x42_3 = some r) ∧ Aside0 (kq ≤ k) ∧ Aside0 (Below w.heap.size w wc))
  case first =>
    have H := HC4.out
    clear HC4
    by_cases c5 : a0 < 1
    · rw [if_pos c5] at H
      have c5b0 : decide (a0 < 1) = true := decide_eq_true c5
      clear c5
      (first | rw [c5b0] | (simp only [i64_w, i32_w]; rw [c5b0]) | skip)
      have H' := Aside0.mk H
      clear H
      go_wp2
      go_meet
      case rel => exact ⟨_, (true), (by first | rfl | (simp; done) | (simp [*]; done)), H', ⟨by first | omega | exact Nat.le_refl _⟩, ⟨by repeat (first | (with_reducible first | exact HB.out | apply below_alloc | apply pw_below_drewN | apply below_drew1) | exact HB.out)⟩⟩
    · rw [if_neg c5] at H
      have c5b0 : decide (a0 < 1) = false := decide_eq_false c5
      clear c5
      (first | rw [c5b0] | (simp only [i64_w, i32_w]; rw [c5b0]) | skip)
      by_cases c6 : a1 < 1
      · rw [if_pos c6] at H
        have c6b0 : decide (a1 < 1) = true := decide_eq_true c6
        clear c6
        have H' := Aside0.mk H
        clear H
        go_wp2
        go_meet
        case rel => exact ⟨_, (true), (by first | rfl | (simp; done) | (simp [*]; done)), H', ⟨by first | omega | exact Nat.le_refl _⟩, ⟨by repeat (first | (with_reducible first | exact HB.out | apply below_alloc | apply pw_below_drewN | apply below_drew1) | exact HB.out)⟩⟩
      · rw [if_neg c6] at H
        have c6b0 : decide (a1 < 1) = false := decide_eq_false c6
        clear c6
        by_cases c7 : a0 > 100
        · rw [if_pos c7] at H
          have c7b0 : decide (100 < a0) = true := decide_eq_true c7
          clear c7
          have H' := Aside0.mk H
          clear H
          go_wp2
          go_meet
          case rel => exact ⟨_, (true), (by first | rfl | (simp; done) | (simp [*]; done)), H', ⟨by first | omega | exact Nat.le_refl _⟩, ⟨by repeat (first | (with_reducible first | exact HB.out | apply below_alloc | apply pw_below_drewN | apply below_drew1) | exact HB.out)⟩⟩
        · rw [if_neg c7] at H
          have c7b0 : decide (100 < a0) = false := decide_eq_false c7
          clear c7
          by_cases c8 : a1 > 100
          · rw [if_pos c8] at H
            have c8b0 : decide (100 < a1) = true := decide_eq_true c8
            clear c8
            have H' := Aside0.mk H
            clear H
            go_wp2
            go_meet
            case rel => exact ⟨_, (true), (by first | rfl | (simp; done) | (simp [*]; done)), H', ⟨by first | omega | exact Nat.le_refl _⟩, ⟨by repeat (first | (with_reducible first | exact HB.out | apply below_alloc | apply pw_below_drewN | apply below_drew1) | exact HB.out)⟩⟩
          · rw [if_neg c8] at H
            have c8b0 : decide (100 < a1) = false := decide_eq_false c8
            clear c8
            by_cases c9 : a2 < 0
            · rw [if_pos c9] at H
              have c9b0 : decide (a2 < 0) = true := decide_eq_true c9
              clear c9
              have H' := Aside0.mk H
              clear H
              go_wp2
              go_meet
              case rel => exact ⟨_, (true), (by first | rfl | (simp; done) | (simp [*]; done)), H', ⟨by first | omega | exact Nat.le_refl _⟩, ⟨by repeat (first | (with_reducible first | exact HB.out | apply below_alloc | apply pw_below_drewN | apply below_drew1) | exact HB.out)⟩⟩
            · rw [if_neg c9] at H
              have c9b0 : decide (a2 < 0) = false := decide_eq_false c9
              clear c9
              by_cases c10 : a2 > 100
              · rw [if_pos c10] at H
                have c10b0 : decide (100 < a2) = true := decide_eq_true c10
                clear c10
                have H' := Aside0.mk H
                clear H
                go_wp2
                go_meet
                case rel => exact ⟨_, (true), (by first | rfl | (simp; done) | (simp [*]; done)), H', ⟨by first | omega | exact Nat.le_refl _⟩, ⟨by repeat (first | (with_reducible first | exact HB.out | apply below_alloc | apply pw_below_drewN | apply below_drew1) | exact HB.out)⟩⟩
              · rw [if_neg c10] at H
                have c10b0 : decide (100 < a2) = false := decide_eq_false c10
                clear c10
                replace H := Option.bind_eq_some_iff.mp H
                obtain ⟨t169, A110, H⟩ := H
                replace H : (bywashlaw17_PingGone.j0 k a0 a1 a2 (!t169)) = some r := H
                have A11 := Aside0.mk A110
                clear A110
                have H' := Aside0.mk H
                clear H
                go_wp2_with (first | (go_at_call 8; (with_reducible refine (bywashlaw17_alive.calls k  t169 _ A11.out).mono ?_); rintro e w12 ⟨rfl, hb⟩; have n0_ := Aside0.mk (below_step (by repeat (first | (with_reducible first | exact HB.out | apply below_alloc | apply pw_below_drewN | apply below_drew1) | exact HB.out)) hb); clear HB; have HB := n0_; clear n0_; (try clear hb); (try clear hb2); (try clear hk); (try clear hi)))
                go_meet
                case rel => exact ⟨_, (!t169), (by first | rfl | (simp; done) | (simp [*]; done)), H', ⟨by first | omega | exact Nat.le_refl _⟩, ⟨by repeat (first | (with_reducible first | exact HB.out | apply below_alloc | apply pw_below_drewN | apply below_drew1) | exact HB.out)⟩⟩
  case rest =>
    clear HC4
    try clear c1
    try clear p2
    try clear c4
    try clear c5
    try clear c5b0
    try clear c6
    try clear c6b0
    try clear c7
    try clear c7b0
    try clear c8
    try clear c8b0
    try clear c9
    try clear c9b0
    try clear c10
    try clear c10b0
    obtain ⟨kq, x42_3, rfl, HA, HJ3, HB⟩ := hcut
    cases kq with
    | zero => exact absurd HA.out (by simp [bywashlaw17_PingGone.j0])
    | succ kj3 =>
      have H := HA.out
      clear HA
      simp only [bywashlaw17_PingGone.j0] at H
      by_cases c13 : x42_3 = true
      · subst c13
        have H1 : ((bywashlaw17_alive.f kj3).bind fun t170 => (some t170)) = some r := by rw [if_pos rfl] at H; exact H
        clear H
        have H := H1
        clear H1
        replace H := Option.bind_eq_some_iff.mp H
        obtain ⟨t170, A140, H⟩ := H
        replace H : (some t170) = some r := H
        have A14 := Aside0.mk A140
        clear A140
        obtain rfl := Option.some.inj H
        go_wp2_with (first | ((with_reducible refine gate_callee (f := 8) rfl ?_); refine goesL_ (some 43) rfl rfl Try.func8 (by kernel_rfl) rfl #[] rfl (by (try simp only [List.map_toArray, List.map_cons, List.map_nil]); first | done | rfl | (simp only [List.length_drop, List.length_take]; rfl)) ?_; (with_reducible refine (bywashlaw17_alive.calls kj3  t170 _ A14.out).mono ?_); rintro e w15 ⟨rfl, hb⟩; refine ⟨_, rfl, ?_⟩; have n0_ := Aside0.mk (below_step (by repeat (first | (with_reducible first | exact HB.out | apply below_alloc | apply pw_below_drewN | apply below_drew1) | exact HB.out)) hb); clear HB; have HB := n0_; clear n0_; (try clear hb); (try clear hb2); (try clear hk); (try clear hi)))
        go_ret
        exact ⟨by first | rfl | (simp [errW_none, errW_some] <;> rfl) | (simp [*, errW_none, errW_some] <;> rfl), by repeat (first | (with_reducible first | exact HB.out | apply below_alloc | apply pw_below_drewN | apply below_drew1) | exact HB.out)⟩
      · replace c13 := Bool.eq_false_iff.mpr c13
        subst c13
        have H1 : ((ping_New.f a0 a1).bind fun bt171 => (bywashlaw17_PingGone.l0 kj3 a0 a1 a2 (⟨#[]⟩ : ByteArray) 1 bt171.1 bt171.2.1 bt171.2.2.1 bt171.2.2.2.1 bt171.2.2.2.2.1 bt171.2.2.2.2.2)) = some r := by rw [if_neg (show ¬ (false = true) by decide)] at H; exact H
        clear H
        have H := H1
        clear H1
        replace H := Option.bind_eq_some_iff.mp H
        obtain ⟨⟨t171, t172, t173, t174, t175, t176⟩, A160, H⟩ := H
        replace H : (bywashlaw17_PingGone.l0 kj3 a0 a1 a2 (⟨#[]⟩ : ByteArray) 1 t171 t172 t173 t174 t175 t176) = some r := H
        have A16 := Aside0.mk A160
        clear A160
        have H' := Aside0.mk H
        clear H
        go_wp2_with (first | ((with_reducible refine gate_callee (f := 9) rfl ?_); refine goesL_ (some 46) rfl rfl Try.func9 (by kernel_rfl) rfl #[.int .i64 a0, .int .i64 a1] rfl (by (try simp only [List.map_toArray, List.map_cons, List.map_nil]); first | done | rfl | (simp only [List.length_drop, List.length_take]; rfl)) ?_; (with_reducible refine (ping_New.calls a0 a1 t171 t172 t173 t174 t175 t176 w _ ?side1 A16.out).mono ?_); (case side1 => repeat (first | (with_reducible first | exact HB.out | apply below_alloc | apply pw_below_drewN | apply below_drew1) | exact HB.out)); rintro e w17 ⟨g177, rfl, hi, hb, hb2⟩; refine ⟨_, rfl, ?_⟩; have n0_ := Aside0.mk (hb); have n1_ := Aside0.mk (hi); clear HB; have HB := n0_; have HI177 := n1_; clear n0_ n1_; (try clear hb); (try clear hb2); (try clear hk); (try clear hi)))
        go_loopg [8, 9] kj3 (fun kq v8 v9 w' => ∃ (x8_2 : ByteArray) (x9_2 : Int) (x178000_2 : Int) (x178001_2 : Int) (x178002_2 : Int) (x178003_2 : Int) (x178004_2 : Bool) (x178005_2 : Bool), v8 = .string x8_2 ∧ v9 = .int .i64 x9_2 ∧ Aside0 (bywashlaw17_PingGone.l0 kq a0 a1 a2 x8_2 x9_2 x178000_2 x178001_2 x178002_2 x178003_2 x178004_2 x178005_2 = some r) ∧ Aside0 (kq ≤ kj3) ∧ Aside0 (IsS42 w w' g177 x178000_2 x178001_2 x178002_2 x178003_2 x178004_2 x178005_2) ∧ Aside0 (Below w.heap.size w w'))
        case atStart => exact ⟨((⟨#[]⟩ : ByteArray)), (1), (t171), (t172), (t173), (t174), (t175), (t176), (by first | rfl | (simp; done) | (simp [*]; done)), (by first | rfl | (simp; done) | (simp [*]; done)), H', ⟨Nat.le_refl _⟩, ⟨by repeat (first | (with_reducible first | exact HI177.out | apply IsS42.alloc | apply IsS42.drewN | apply IsS42.drew | apply IsS42.set_0 | apply IsS42.set_1 | apply IsS42.set_2 | apply IsS42.set_3 | apply IsS42.set_4 | apply IsS42.set_5) | exact HI177.out)⟩, ⟨by repeat (first | (with_reducible first | exact HB.out | apply below_alloc | apply pw_below_drewN | apply below_drew1 | refine below_set ?_ (IsS42.ge HI177.out)) | exact HB.out)⟩⟩
        case round =>
          clear H'
          try clear c1
          try clear p2
          try clear c4
          try clear c5
          try clear c5b0
          try clear c6
          try clear c6b0
          try clear c7
          try clear c7b0
          try clear c8
          try clear c8b0
          try clear c9
          try clear c9b0
          try clear c10
          try clear c10b0
          try clear c13
          try clear p2
          obtain ⟨x8_2, x9_2, x178000_2, x178001_2, x178002_2, x178003_2, x178004_2, x178005_2, rfl, rfl, HA, HK2, HI177, HB⟩ := hrel
          cases gk with
          | zero => exact absurd HA.out (by simp [bywashlaw17_PingGone.l0])
          | succ k2 =>
            have H := HA.out
            clear HA
            simp only [bywashlaw17_PingGone.l0] at H
            by_cases c18 : x9_2 ≤ a0
            · rw [if_pos c18] at H
              have c18b0 : decide (x9_2 ≤ a0) = true := decide_eq_true c18
              clear c18
              replace H := Option.bind_eq_some_iff.mp H
              obtain ⟨⟨t178, t179, t180, t181, t182, t183, t184, t185⟩, A190, H⟩ := H
              replace H : (if t179 = true then (some false) else (if ((t178.toList != ([] : List UInt8)) != (x9_2 == a0)) = true then (some false) else (bywashlaw17_PingGone.l0 k2 a0 a1 a2 t178 (wrap64 (x9_2 + 1)) t180 t181 t182 t183 t184 t185))) = some r := H
              have A19 := Aside0.mk A190
              clear A190
              by_cases c20 : t179 = true
              · subst c20
                have H1 : (some false) = some r := by rw [if_pos rfl] at H; exact H
                clear H
                have H := H1
                clear H1
                obtain rfl := Option.some.inj H
                go_wp2_with (first | ((with_reducible refine gate_callee (f := 10) rfl ?_); refine goesL_ (some 56) rfl rfl Try.func10 (by kernel_rfl) rfl #[.pointer (some ⟨g177, 0, none⟩)] rfl (by (try simp only [List.map_toArray, List.map_cons, List.map_nil]); first | done | rfl | (simp only [List.length_drop, List.length_take]; rfl)) ?_; (with_reducible refine (ping_Health_Tick.calls k2 g177 x178000_2 x178001_2 x178002_2 x178003_2 x178004_2 x178005_2 t178 true t180 t181 t182 t183 t184 t185 w _ ?side1 ?side2 A19.out).mono ?_); (case side1 => repeat (first | (with_reducible first | exact HI177.out | apply IsS42.alloc | apply IsS42.drewN | apply IsS42.drew | apply IsS42.set_0 | apply IsS42.set_1 | apply IsS42.set_2 | apply IsS42.set_3 | apply IsS42.set_4 | apply IsS42.set_5) | exact HI177.out)); (case side2 => repeat (first | (with_reducible first | exact HB.out | apply below_alloc | apply pw_below_drewN | apply below_drew1 | refine below_set ?_ (IsS42.ge HI177.out)) | exact HB.out)); rintro e w21 ⟨rfl, hi, hb, hk⟩; refine ⟨_, rfl, ?_⟩; have n0_ := Aside0.mk (hb); have n1_ := Aside0.mk (hi); clear HB; clear HI177; have HB := n0_; have HI177 := n1_; clear n0_ n1_; (try clear hb); (try clear hb2); (try clear hk); (try clear hi)))
                go_ret
                exact ⟨by first | rfl | (simp [errW_none, errW_some] <;> rfl) | (simp [*, errW_none, errW_some] <;> rfl), by repeat (first | (with_reducible first | exact HB.out | apply below_alloc | apply pw_below_drewN | apply below_drew1 | refine below_set ?_ (IsS42.ge HI177.out)) | exact HB.out)⟩
              · replace c20 := Bool.eq_false_iff.mpr c20
                subst c20
                have H1 : (if ((t178.toList != ([] : List UInt8)) != (x9_2 == a0)) = true then (some false) else (bywashlaw17_PingGone.l0 k2 a0 a1 a2 t178 (wrap64 (x9_2 + 1)) t180 t181 t182 t183 t184 t185)) = some r := by rw [if_neg (show ¬ (false = true) by decide)] at H; exact H
                clear H
                have H := H1
                clear H1
                by_cases c22 : ((t178.toList != ([] : List UInt8)) != (x9_2 == a0)) = true
                · rw [if_pos c22] at H
                  have c22b0 : ((t178.toList != ([] : List UInt8)) != (x9_2 == a0)) = true := c22
                  (try (have c22b1 : decide ((t178.toList != ([] : List UInt8)) = (x9_2 == a0)) = false := by simpa using c22))
                  (try (have c22b2 : ((t178.toList != ([] : List UInt8)) == (x9_2 == a0)) = false := by simpa using c22))
                  have c22e : ((!t178.toList.isEmpty) == (x9_2 == a0)) = false := by have z := c22b2; rw [bne_nil_] at z; exact z
                  (try (have c22b3 : ¬ ((t178.toList != ([] : List UInt8)) = (x9_2 == a0)) := by simpa using c22))
                  clear c22
                  obtain rfl := Option.some.inj H
                  go_wp2_with (first | ((with_reducible refine gate_callee (f := 10) rfl ?_); refine goesL_ (some 56) rfl rfl Try.func10 (by kernel_rfl) rfl #[.pointer (some ⟨g177, 0, none⟩)] rfl (by (try simp only [List.map_toArray, List.map_cons, List.map_nil]); first | done | rfl | (simp only [List.length_drop, List.length_take]; rfl)) ?_; (with_reducible refine (ping_Health_Tick.calls k2 g177 x178000_2 x178001_2 x178002_2 x178003_2 x178004_2 x178005_2 t178 false t180 t181 t182 t183 t184 t185 w _ ?side1 ?side2 A19.out).mono ?_); (case side1 => repeat (first | (with_reducible first | exact HI177.out | apply IsS42.alloc | apply IsS42.drewN | apply IsS42.drew | apply IsS42.set_0 | apply IsS42.set_1 | apply IsS42.set_2 | apply IsS42.set_3 | apply IsS42.set_4 | apply IsS42.set_5) | exact HI177.out)); (case side2 => repeat (first | (with_reducible first | exact HB.out | apply below_alloc | apply pw_below_drewN | apply below_drew1 | refine below_set ?_ (IsS42.ge HI177.out)) | exact HB.out)); rintro e w23 ⟨rfl, hi, hb, hk⟩; refine ⟨_, rfl, ?_⟩; have n0_ := Aside0.mk (hb); have n1_ := Aside0.mk (hi); clear HB; clear HI177; have HB := n0_; have HI177 := n1_; clear n0_ n1_; (try clear hb); (try clear hb2); (try clear hk); (try clear hi)))
                  go_ret
                  exact ⟨by first | rfl | (simp [errW_none, errW_some] <;> rfl) | (simp [*, errW_none, errW_some] <;> rfl), by repeat (first | (with_reducible first | exact HB.out | apply below_alloc | apply pw_below_drewN | apply below_drew1 | refine below_set ?_ (IsS42.ge HI177.out)) | exact HB.out)⟩
                · rw [if_neg c22] at H
                  have c22b0 : ((t178.toList != ([] : List UInt8)) != (x9_2 == a0)) = false := by simpa using c22
                  (try (have c22b1 : decide ((t178.toList != ([] : List UInt8)) = (x9_2 == a0)) = true := by simpa using c22))
                  (try (have c22b2 : ((t178.toList != ([] : List UInt8)) == (x9_2 == a0)) = true := by simpa using c22))
                  have c22e : ((!t178.toList.isEmpty) == (x9_2 == a0)) = true := by have z := c22b2; rw [bne_nil_] at z; exact z
                  clear c22
                  have H' := Aside0.mk H
                  clear H
                  go_wp2_with (first | ((with_reducible refine gate_callee (f := 10) rfl ?_); refine goesL_ (some 56) rfl rfl Try.func10 (by kernel_rfl) rfl #[.pointer (some ⟨g177, 0, none⟩)] rfl (by (try simp only [List.map_toArray, List.map_cons, List.map_nil]); first | done | rfl | (simp only [List.length_drop, List.length_take]; rfl)) ?_; (with_reducible refine (ping_Health_Tick.calls k2 g177 x178000_2 x178001_2 x178002_2 x178003_2 x178004_2 x178005_2 t178 false t180 t181 t182 t183 t184 t185 w _ ?side1 ?side2 A19.out).mono ?_); (case side1 => repeat (first | (with_reducible first | exact HI177.out | apply IsS42.alloc | apply IsS42.drewN | apply IsS42.drew | apply IsS42.set_0 | apply IsS42.set_1 | apply IsS42.set_2 | apply IsS42.set_3 | apply IsS42.set_4 | apply IsS42.set_5) | exact HI177.out)); (case side2 => repeat (first | (with_reducible first | exact HB.out | apply below_alloc | apply pw_below_drewN | apply below_drew1 | refine below_set ?_ (IsS42.ge HI177.out)) | exact HB.out)); rintro e w24 ⟨rfl, hi, hb, hk⟩; refine ⟨_, rfl, ?_⟩; have n0_ := Aside0.mk (hb); have n1_ := Aside0.mk (hi); clear HB; clear HI177; have HB := n0_; have HI177 := n1_; clear n0_ n1_; (try clear hb); (try clear hb2); (try clear hk); (try clear hi)))
                  go_roundg k2
                  case measure => have := HJ3.out; have := HK2.out; omega
                  case rel => exact ⟨(t178), (wrap64 (x9_2 + 1)), (t180), (t181), (t182), (t183), (t184), (t185), (by first | rfl | (simp; done) | (simp [*]; done)), (by first | rfl | (simp; done) | (simp [*]; done)), H', ⟨by have := HJ3.out; have := HK2.out; omega⟩, ⟨by repeat (first | (with_reducible first | exact HI177.out | apply IsS42.alloc | apply IsS42.drewN | apply IsS42.drew | apply IsS42.set_0 | apply IsS42.set_1 | apply IsS42.set_2 | apply IsS42.set_3 | apply IsS42.set_4 | apply IsS42.set_5) | exact HI177.out)⟩, ⟨by repeat (first | (with_reducible first | exact HB.out | apply below_alloc | apply pw_below_drewN | apply below_drew1 | refine below_set ?_ (IsS42.ge HI177.out)) | exact HB.out)⟩⟩
            · rw [if_neg c18] at H
              have c18b0 : decide (x9_2 ≤ a0) = false := decide_eq_false c18
              clear c18
              have H' := Aside0.mk H
              clear H
              go_wp2
              go_loopg [12] k2 (fun kq v12 w' => ∃ (x12_3 : Int) (x178000_3 : Int) (x178001_3 : Int) (x178002_3 : Int) (x178003_3 : Int) (x178004_3 : Bool) (x178005_3 : Bool), v12 = .int .i64 x12_3 ∧ Aside0 (bywashlaw17_PingGone.l1 kq a1 a2 x8_2 x12_3 x178000_3 x178001_3 x178002_3 x178003_3 x178004_3 x178005_3 = some r) ∧ Aside0 (kq ≤ k2) ∧ Aside0 (IsS42 w w' g177 x178000_3 x178001_3 x178002_3 x178003_3 x178004_3 x178005_3) ∧ Aside0 (Below w.heap.size w w'))
              case atStart => exact ⟨(1), (x178000_2), (x178001_2), (x178002_2), (x178003_2), (x178004_2), (x178005_2), (by first | rfl | (simp; done) | (simp [*]; done)), H', ⟨Nat.le_refl _⟩, ⟨by repeat (first | (with_reducible first | exact HI177.out | apply IsS42.alloc | apply IsS42.drewN | apply IsS42.drew | apply IsS42.set_0 | apply IsS42.set_1 | apply IsS42.set_2 | apply IsS42.set_3 | apply IsS42.set_4 | apply IsS42.set_5) | exact HI177.out)⟩, ⟨by repeat (first | (with_reducible first | exact HB.out | apply below_alloc | apply pw_below_drewN | apply below_drew1 | refine below_set ?_ (IsS42.ge HI177.out)) | exact HB.out)⟩⟩
              case round =>
                clear H'
                try clear c1
                try clear c2
                try clear p2
                try clear c4
                try clear c5
                try clear c5b0
                try clear c6
                try clear c6b0
                try clear p6
                try clear c7
                try clear c7b0
                try clear c8
                try clear c8b0
                try clear c9
                try clear c9b0
                try clear c10
                try clear c10b0
                try clear c13
                try clear c18
                try clear c18b0
                try clear c20
                try clear c22
                try clear c22b0
                try clear c22b1
                try clear c22b2
                try clear p2
                obtain ⟨x12_3, x178000_3, x178001_3, x178002_3, x178003_3, x178004_3, x178005_3, rfl, HA, HK3, HI177, HB⟩ := hrel
                cases gk with
                | zero => exact absurd HA.out (by simp [bywashlaw17_PingGone.l1])
                | succ k3 =>
                  have H := HA.out
                  clear HA
                  simp only [bywashlaw17_PingGone.l1] at H
                  by_cases c25 : x12_3 ≤ a1
                  · rw [if_pos c25] at H
                    have c25b0 : decide (x12_3 ≤ a1) = true := decide_eq_true c25
                    clear c25
                    by_cases c26 : x12_3 = a2
                    · rw [if_pos c26] at H
                      have c26b0 : (x12_3 == a2) = true := beq_iff_eq.mpr c26
                      have c26b1 : (x12_3 != a2) = false := bne_eq_false_iff_eq.mpr c26
                      clear c26
                      replace H := Option.bind_eq_some_iff.mp H
                      obtain ⟨⟨t201, t202, t203, t204, t205, t206, t207⟩, A270, H⟩ := H
                      replace H : (if t201 = true then ((ping_Health_Waits.f t202 t203 t204 t205 t206 t207).bind fun bt208 => (if bt208.1 = true then (some false) else ((ping_Health_Got.f k3 bt208.2.1 bt208.2.2.1 bt208.2.2.2.1 bt208.2.2.2.2.1 bt208.2.2.2.2.2.1 bt208.2.2.2.2.2.2 x8_2).bind fun bt215 => (some (!bt215.1))))) else (some false)) = some r := H
                      have A27 := Aside0.mk A270
                      clear A270
                      by_cases c28 : t201 = true
                      · subst c28
                        have H1 : ((ping_Health_Waits.f t202 t203 t204 t205 t206 t207).bind fun bt208 => (if bt208.1 = true then (some false) else ((ping_Health_Got.f k3 bt208.2.1 bt208.2.2.1 bt208.2.2.2.1 bt208.2.2.2.2.1 bt208.2.2.2.2.2.1 bt208.2.2.2.2.2.2 x8_2).bind fun bt215 => (some (!bt215.1))))) = some r := by rw [if_pos rfl] at H; exact H
                        clear H
                        have H := H1
                        clear H1
                        replace H := Option.bind_eq_some_iff.mp H
                        obtain ⟨⟨t208, t209, t210, t211, t212, t213, t214⟩, A290, H⟩ := H
                        replace H : (if t208 = true then (some false) else ((ping_Health_Got.f k3 t209 t210 t211 t212 t213 t214 x8_2).bind fun bt215 => (some (!bt215.1)))) = some r := H
                        have A29 := Aside0.mk A290
                        clear A290
                        by_cases c30 : t208 = true
                        · subst c30
                          have H1 : (some false) = some r := by rw [if_pos rfl] at H; exact H
                          clear H
                          have H := H1
                          clear H1
                          obtain rfl := Option.some.inj H
                          go_wp2_with (first | ((with_reducible refine gate_callee (f := 11) rfl ?_); refine goesL_ (some 79) rfl rfl Try.func11 (by kernel_rfl) rfl #[.pointer (some ⟨g177, 0, none⟩), .string x8_2] rfl (by (try simp only [List.map_toArray, List.map_cons, List.map_nil]); first | done | rfl | (simp only [List.length_drop, List.length_take]; rfl)) ?_; (with_reducible refine (ping_Health_Got.calls k3 g177 x178000_3 x178001_3 x178002_3 x178003_3 x178004_3 x178005_3 x8_2 true t202 t203 t204 t205 t206 t207 w _ ?side1 ?side2 A27.out).mono ?_); (case side1 => repeat (first | (with_reducible first | exact HI177.out | apply IsS42.alloc | apply IsS42.drewN | apply IsS42.drew | apply IsS42.set_0 | apply IsS42.set_1 | apply IsS42.set_2 | apply IsS42.set_3 | apply IsS42.set_4 | apply IsS42.set_5) | exact HI177.out)); (case side2 => repeat (first | (with_reducible first | exact HB.out | apply below_alloc | apply pw_below_drewN | apply below_drew1 | refine below_set ?_ (IsS42.ge HI177.out)) | exact HB.out)); rintro e w31 ⟨rfl, hi, hb, hk⟩; refine ⟨_, rfl, ?_⟩; have n0_ := Aside0.mk (hb); have n1_ := Aside0.mk (hi); clear HB; clear HI177; have HB := n0_; have HI177 := n1_; clear n0_ n1_; (try clear hb); (try clear hb2); (try clear hk); (try clear hi)) | (go_at_call 12; (with_reducible refine (ping_Health_Waits.calls g177 t202 t203 t204 t205 t206 t207 true t209 t210 t211 t212 t213 t214 w _ ?side1 ?side2 A29.out).mono ?_); (case side1 => repeat (first | (with_reducible first | exact HI177.out | apply IsS42.alloc | apply IsS42.drewN | apply IsS42.drew | apply IsS42.set_0 | apply IsS42.set_1 | apply IsS42.set_2 | apply IsS42.set_3 | apply IsS42.set_4 | apply IsS42.set_5) | exact HI177.out)); (case side2 => repeat (first | (with_reducible first | exact HB.out | apply below_alloc | apply pw_below_drewN | apply below_drew1 | refine below_set ?_ (IsS42.ge HI177.out)) | exact HB.out)); rintro e w32 ⟨rfl, hi, hb, hk⟩; have n0_ := Aside0.mk (hb); have n1_ := Aside0.mk (hi); clear HB; clear HI177; have HB := n0_; have HI177 := n1_; clear n0_ n1_; (try clear hb); (try clear hb2); (try clear hk); (try clear hi)))
                          go_ret
                          exact ⟨by first | rfl | (simp [errW_none, errW_some] <;> rfl) | (simp [*, errW_none, errW_some] <;> rfl), by repeat (first | (with_reducible first | exact HB.out | apply below_alloc | apply pw_below_drewN | apply below_drew1 | refine below_set ?_ (IsS42.ge HI177.out)) | exact HB.out)⟩
                        · replace c30 := Bool.eq_false_iff.mpr c30
                          subst c30
                          have H1 : ((ping_Health_Got.f k3 t209 t210 t211 t212 t213 t214 x8_2).bind fun bt215 => (some (!bt215.1))) = some r := by rw [if_neg (show ¬ (false = true) by decide)] at H; exact H
                          clear H
                          have H := H1
                          clear H1
                          replace H := Option.bind_eq_some_iff.mp H
                          obtain ⟨⟨t215, t216, t217, t218, t219, t220, t221⟩, A330, H⟩ := H
                          replace H : (some (!t215)) = some r := H
                          have A33 := Aside0.mk A330
                          clear A330
                          obtain rfl := Option.some.inj H
                          go_wp2_with (first | ((with_reducible refine gate_callee (f := 11) rfl ?_); refine goesL_ (some 79) rfl rfl Try.func11 (by kernel_rfl) rfl #[.pointer (some ⟨g177, 0, none⟩), .string x8_2] rfl (by (try simp only [List.map_toArray, List.map_cons, List.map_nil]); first | done | rfl | (simp only [List.length_drop, List.length_take]; rfl)) ?_; (with_reducible refine (ping_Health_Got.calls k3 g177 x178000_3 x178001_3 x178002_3 x178003_3 x178004_3 x178005_3 x8_2 true t202 t203 t204 t205 t206 t207 w _ ?side1 ?side2 A27.out).mono ?_); (case side1 => repeat (first | (with_reducible first | exact HI177.out | apply IsS42.alloc | apply IsS42.drewN | apply IsS42.drew | apply IsS42.set_0 | apply IsS42.set_1 | apply IsS42.set_2 | apply IsS42.set_3 | apply IsS42.set_4 | apply IsS42.set_5) | exact HI177.out)); (case side2 => repeat (first | (with_reducible first | exact HB.out | apply below_alloc | apply pw_below_drewN | apply below_drew1 | refine below_set ?_ (IsS42.ge HI177.out)) | exact HB.out)); rintro e w34 ⟨rfl, hi, hb, hk⟩; refine ⟨_, rfl, ?_⟩; have n0_ := Aside0.mk (hb); have n1_ := Aside0.mk (hi); clear HB; clear HI177; have HB := n0_; have HI177 := n1_; clear n0_ n1_; (try clear hb); (try clear hb2); (try clear hk); (try clear hi)) | (go_at_call 12; (with_reducible refine (ping_Health_Waits.calls g177 t202 t203 t204 t205 t206 t207 false t209 t210 t211 t212 t213 t214 w _ ?side1 ?side2 A29.out).mono ?_); (case side1 => repeat (first | (with_reducible first | exact HI177.out | apply IsS42.alloc | apply IsS42.drewN | apply IsS42.drew | apply IsS42.set_0 | apply IsS42.set_1 | apply IsS42.set_2 | apply IsS42.set_3 | apply IsS42.set_4 | apply IsS42.set_5) | exact HI177.out)); (case side2 => repeat (first | (with_reducible first | exact HB.out | apply below_alloc | apply pw_below_drewN | apply below_drew1 | refine below_set ?_ (IsS42.ge HI177.out)) | exact HB.out)); rintro e w35 ⟨rfl, hi, hb, hk⟩; have n0_ := Aside0.mk (hb); have n1_ := Aside0.mk (hi); clear HB; clear HI177; have HB := n0_; have HI177 := n1_; clear n0_ n1_; (try clear hb); (try clear hb2); (try clear hk); (try clear hi)) | (go_at_call 11; (with_reducible refine (ping_Health_Got.calls k3 g177 t209 t210 t211 t212 t213 t214 x8_2 t215 t216 t217 t218 t219 t220 t221 w _ ?side1 ?side2 A33.out).mono ?_); (case side1 => repeat (first | (with_reducible first | exact HI177.out | apply IsS42.alloc | apply IsS42.drewN | apply IsS42.drew | apply IsS42.set_0 | apply IsS42.set_1 | apply IsS42.set_2 | apply IsS42.set_3 | apply IsS42.set_4 | apply IsS42.set_5) | exact HI177.out)); (case side2 => repeat (first | (with_reducible first | exact HB.out | apply below_alloc | apply pw_below_drewN | apply below_drew1 | refine below_set ?_ (IsS42.ge HI177.out)) | exact HB.out)); rintro e w36 ⟨rfl, hi, hb, hk⟩; have n0_ := Aside0.mk (hb); have n1_ := Aside0.mk (hi); clear HB; clear HI177; have HB := n0_; have HI177 := n1_; clear n0_ n1_; (try clear hb); (try clear hb2); (try clear hk); (try clear hi)))
                          go_ret
                          exact ⟨by first | rfl | (simp [errW_none, errW_some] <;> rfl) | (simp [*, errW_none, errW_some] <;> rfl), by repeat (first | (with_reducible first | exact HB.out | apply below_alloc | apply pw_below_drewN | apply below_drew1 | refine below_set ?_ (IsS42.ge HI177.out)) | exact HB.out)⟩
                      · replace c28 := Bool.eq_false_iff.mpr c28
                        subst c28
                        have H1 : (some false) = some r := by rw [if_neg (show ¬ (false = true) by decide)] at H; exact H
                        clear H
                        have H := H1
                        clear H1
                        obtain rfl := Option.some.inj H
                        go_wp2_with (first | ((with_reducible refine gate_callee (f := 11) rfl ?_); refine goesL_ (some 79) rfl rfl Try.func11 (by kernel_rfl) rfl #[.pointer (some ⟨g177, 0, none⟩), .string x8_2] rfl (by (try simp only [List.map_toArray, List.map_cons, List.map_nil]); first | done | rfl | (simp only [List.length_drop, List.length_take]; rfl)) ?_; (with_reducible refine (ping_Health_Got.calls k3 g177 x178000_3 x178001_3 x178002_3 x178003_3 x178004_3 x178005_3 x8_2 false t202 t203 t204 t205 t206 t207 w _ ?side1 ?side2 A27.out).mono ?_); (case side1 => repeat (first | (with_reducible first | exact HI177.out | apply IsS42.alloc | apply IsS42.drewN | apply IsS42.drew | apply IsS42.set_0 | apply IsS42.set_1 | apply IsS42.set_2 | apply IsS42.set_3 | apply IsS42.set_4 | apply IsS42.set_5) | exact HI177.out)); (case side2 => repeat (first | (with_reducible first | exact HB.out | apply below_alloc | apply pw_below_drewN | apply below_drew1 | refine below_set ?_ (IsS42.ge HI177.out)) | exact HB.out)); rintro e w37 ⟨rfl, hi, hb, hk⟩; refine ⟨_, rfl, ?_⟩; have n0_ := Aside0.mk (hb); have n1_ := Aside0.mk (hi); clear HB; clear HI177; have HB := n0_; have HI177 := n1_; clear n0_ n1_; (try clear hb); (try clear hb2); (try clear hk); (try clear hi)))
                        go_ret
                        exact ⟨by first | rfl | (simp [errW_none, errW_some] <;> rfl) | (simp [*, errW_none, errW_some] <;> rfl), by repeat (first | (with_reducible first | exact HB.out | apply below_alloc | apply pw_below_drewN | apply below_drew1 | refine below_set ?_ (IsS42.ge HI177.out)) | exact HB.out)⟩
                    · rw [if_neg c26] at H
                      have c26b0 : (x12_3 == a2) = false := beq_eq_false_iff_ne.mpr c26
                      have c26b1 : (x12_3 != a2) = true := bne_iff_ne.mpr c26
                      replace H := Option.bind_eq_some_iff.mp H
                      obtain ⟨⟨t222, t223, t224, t225, t226, t227, t228, t229⟩, A380, H⟩ := H
                      replace H : (if t222.toList = ([] : List UInt8) then (if (t223 != (x12_3 == a1)) = true then (some false) else (bywashlaw17_PingGone.l1 k3 a1 a2 x8_2 (wrap64 (x12_3 + 1)) t224 t225 t226 t227 t228 t229)) else (some false)) = some r := H
                      have A38 := Aside0.mk A380
                      clear A380
                      by_cases c39 : t222.toList = ([] : List UInt8)
                      · rw [if_pos c39] at H
                        have c39b0 : (t222.toList == ([] : List UInt8)) = true := beq_iff_eq.mpr c39
                        have c39b1 : (t222.toList != ([] : List UInt8)) = false := bne_eq_false_iff_eq.mpr c39
                        clear c39
                        by_cases c40 : (t223 != (x12_3 == a1)) = true
                        · rw [if_pos c40] at H
                          have c40b0 : (t223 != (x12_3 == a1)) = true := c40
                          (try (have c40b1 : decide (t223 = (x12_3 == a1)) = false := by simpa using c40))
                          (try (have c40b2 : (t223 == (x12_3 == a1)) = false := by simpa using c40))
                          (try (have c40b3 : ¬ (t223 = (x12_3 == a1)) := by simpa using c40))
                          clear c40
                          obtain rfl := Option.some.inj H
                          go_wp2_with (first | ((with_reducible refine gate_callee (f := 10) rfl ?_); refine goesL_ (some 93) rfl rfl Try.func10 (by kernel_rfl) rfl #[.pointer (some ⟨g177, 0, none⟩)] rfl (by (try simp only [List.map_toArray, List.map_cons, List.map_nil]); first | done | rfl | (simp only [List.length_drop, List.length_take]; rfl)) ?_; (with_reducible refine (ping_Health_Tick.calls k3 g177 x178000_3 x178001_3 x178002_3 x178003_3 x178004_3 x178005_3 t222 t223 t224 t225 t226 t227 t228 t229 w _ ?side1 ?side2 A38.out).mono ?_); (case side1 => repeat (first | (with_reducible first | exact HI177.out | apply IsS42.alloc | apply IsS42.drewN | apply IsS42.drew | apply IsS42.set_0 | apply IsS42.set_1 | apply IsS42.set_2 | apply IsS42.set_3 | apply IsS42.set_4 | apply IsS42.set_5) | exact HI177.out)); (case side2 => repeat (first | (with_reducible first | exact HB.out | apply below_alloc | apply pw_below_drewN | apply below_drew1 | refine below_set ?_ (IsS42.ge HI177.out)) | exact HB.out)); rintro e w41 ⟨rfl, hi, hb, hk⟩; refine ⟨_, rfl, ?_⟩; have n0_ := Aside0.mk (hb); have n1_ := Aside0.mk (hi); clear HB; clear HI177; have HB := n0_; have HI177 := n1_; clear n0_ n1_; (try clear hb); (try clear hb2); (try clear hk); (try clear hi)))
                          go_ret
                          exact ⟨by first | rfl | (simp [errW_none, errW_some] <;> rfl) | (simp [*, errW_none, errW_some] <;> rfl), by repeat (first | (with_reducible first | exact HB.out | apply below_alloc | apply pw_below_drewN | apply below_drew1 | refine below_set ?_ (IsS42.ge HI177.out)) | exact HB.out)⟩
                        · rw [if_neg c40] at H
                          have c40b0 : (t223 != (x12_3 == a1)) = false := by simpa using c40
                          (try (have c40b1 : decide (t223 = (x12_3 == a1)) = true := by simpa using c40))
                          (try (have c40b2 : (t223 == (x12_3 == a1)) = true := by simpa using c40))
                          clear c40
                          have H' := Aside0.mk H
                          clear H
                          go_wp2_with (first | ((with_reducible refine gate_callee (f := 10) rfl ?_); refine goesL_ (some 93) rfl rfl Try.func10 (by kernel_rfl) rfl #[.pointer (some ⟨g177, 0, none⟩)] rfl (by (try simp only [List.map_toArray, List.map_cons, List.map_nil]); first | done | rfl | (simp only [List.length_drop, List.length_take]; rfl)) ?_; (with_reducible refine (ping_Health_Tick.calls k3 g177 x178000_3 x178001_3 x178002_3 x178003_3 x178004_3 x178005_3 t222 t223 t224 t225 t226 t227 t228 t229 w _ ?side1 ?side2 A38.out).mono ?_); (case side1 => repeat (first | (with_reducible first | exact HI177.out | apply IsS42.alloc | apply IsS42.drewN | apply IsS42.drew | apply IsS42.set_0 | apply IsS42.set_1 | apply IsS42.set_2 | apply IsS42.set_3 | apply IsS42.set_4 | apply IsS42.set_5) | exact HI177.out)); (case side2 => repeat (first | (with_reducible first | exact HB.out | apply below_alloc | apply pw_below_drewN | apply below_drew1 | refine below_set ?_ (IsS42.ge HI177.out)) | exact HB.out)); rintro e w42 ⟨rfl, hi, hb, hk⟩; refine ⟨_, rfl, ?_⟩; have n0_ := Aside0.mk (hb); have n1_ := Aside0.mk (hi); clear HB; clear HI177; have HB := n0_; have HI177 := n1_; clear n0_ n1_; (try clear hb); (try clear hb2); (try clear hk); (try clear hi)))
                          go_roundg k3
                          case measure => have := HJ3.out; have := HK2.out; have := HK3.out; omega
                          case rel => exact ⟨(wrap64 (x12_3 + 1)), (t224), (t225), (t226), (t227), (t228), (t229), (by first | rfl | (simp; done) | (simp [*]; done)), H', ⟨by have := HJ3.out; have := HK2.out; have := HK3.out; omega⟩, ⟨by repeat (first | (with_reducible first | exact HI177.out | apply IsS42.alloc | apply IsS42.drewN | apply IsS42.drew | apply IsS42.set_0 | apply IsS42.set_1 | apply IsS42.set_2 | apply IsS42.set_3 | apply IsS42.set_4 | apply IsS42.set_5) | exact HI177.out)⟩, ⟨by repeat (first | (with_reducible first | exact HB.out | apply below_alloc | apply pw_below_drewN | apply below_drew1 | refine below_set ?_ (IsS42.ge HI177.out)) | exact HB.out)⟩⟩
                      · rw [if_neg c39] at H
                        have c39b0 : (t222.toList == ([] : List UInt8)) = false := beq_eq_false_iff_ne.mpr c39
                        have c39b1 : (t222.toList != ([] : List UInt8)) = true := bne_iff_ne.mpr c39
                        obtain rfl := Option.some.inj H
                        go_wp2_with (first | ((with_reducible refine gate_callee (f := 10) rfl ?_); refine goesL_ (some 93) rfl rfl Try.func10 (by kernel_rfl) rfl #[.pointer (some ⟨g177, 0, none⟩)] rfl (by (try simp only [List.map_toArray, List.map_cons, List.map_nil]); first | done | rfl | (simp only [List.length_drop, List.length_take]; rfl)) ?_; (with_reducible refine (ping_Health_Tick.calls k3 g177 x178000_3 x178001_3 x178002_3 x178003_3 x178004_3 x178005_3 t222 t223 t224 t225 t226 t227 t228 t229 w _ ?side1 ?side2 A38.out).mono ?_); (case side1 => repeat (first | (with_reducible first | exact HI177.out | apply IsS42.alloc | apply IsS42.drewN | apply IsS42.drew | apply IsS42.set_0 | apply IsS42.set_1 | apply IsS42.set_2 | apply IsS42.set_3 | apply IsS42.set_4 | apply IsS42.set_5) | exact HI177.out)); (case side2 => repeat (first | (with_reducible first | exact HB.out | apply below_alloc | apply pw_below_drewN | apply below_drew1 | refine below_set ?_ (IsS42.ge HI177.out)) | exact HB.out)); rintro e w43 ⟨rfl, hi, hb, hk⟩; refine ⟨_, rfl, ?_⟩; have n0_ := Aside0.mk (hb); have n1_ := Aside0.mk (hi); clear HB; clear HI177; have HB := n0_; have HI177 := n1_; clear n0_ n1_; (try clear hb); (try clear hb2); (try clear hk); (try clear hi)))
                        go_ret
                        exact ⟨by first | rfl | (simp [errW_none, errW_some] <;> rfl) | (simp [*, errW_none, errW_some] <;> rfl), by repeat (first | (with_reducible first | exact HB.out | apply below_alloc | apply pw_below_drewN | apply below_drew1 | refine below_set ?_ (IsS42.ge HI177.out)) | exact HB.out)⟩
                  · rw [if_neg c25] at H
                    have c25b0 : decide (x12_3 ≤ a1) = false := decide_eq_false c25
                    clear c25
                    replace H := Option.bind_eq_some_iff.mp H
                    obtain ⟨⟨t186, t187, t188, t189, t190, t191, t192, t193⟩, A440, H⟩ := H
                    replace H : (if t187 = true then ((ping_Health_Got.f k3 t188 t189 t190 t191 t192 t193 x8_2).bind fun bt194 => (some (!bt194.1))) else (some false)) = some r := H
                    have A44 := Aside0.mk A440
                    clear A440
                    by_cases c45 : t187 = true
                    · subst c45
                      have H1 : ((ping_Health_Got.f k3 t188 t189 t190 t191 t192 t193 x8_2).bind fun bt194 => (some (!bt194.1))) = some r := by rw [if_pos rfl] at H; exact H
                      clear H
                      have H := H1
                      clear H1
                      replace H := Option.bind_eq_some_iff.mp H
                      obtain ⟨⟨t194, t195, t196, t197, t198, t199, t200⟩, A460, H⟩ := H
                      replace H : (some (!t194)) = some r := H
                      have A46 := Aside0.mk A460
                      clear A460
                      obtain rfl := Option.some.inj H
                      go_wp2_with (first | ((with_reducible refine gate_callee (f := 10) rfl ?_); refine goesL_ (some 107) rfl rfl Try.func10 (by kernel_rfl) rfl #[.pointer (some ⟨g177, 0, none⟩)] rfl (by (try simp only [List.map_toArray, List.map_cons, List.map_nil]); first | done | rfl | (simp only [List.length_drop, List.length_take]; rfl)) ?_; (with_reducible refine (ping_Health_Tick.calls k3 g177 x178000_3 x178001_3 x178002_3 x178003_3 x178004_3 x178005_3 t186 true t188 t189 t190 t191 t192 t193 w _ ?side1 ?side2 A44.out).mono ?_); (case side1 => repeat (first | (with_reducible first | exact HI177.out | apply IsS42.alloc | apply IsS42.drewN | apply IsS42.drew | apply IsS42.set_0 | apply IsS42.set_1 | apply IsS42.set_2 | apply IsS42.set_3 | apply IsS42.set_4 | apply IsS42.set_5) | exact HI177.out)); (case side2 => repeat (first | (with_reducible first | exact HB.out | apply below_alloc | apply pw_below_drewN | apply below_drew1 | refine below_set ?_ (IsS42.ge HI177.out)) | exact HB.out)); rintro e w47 ⟨rfl, hi, hb, hk⟩; refine ⟨_, rfl, ?_⟩; have n0_ := Aside0.mk (hb); have n1_ := Aside0.mk (hi); clear HB; clear HI177; have HB := n0_; have HI177 := n1_; clear n0_ n1_; (try clear hb); (try clear hb2); (try clear hk); (try clear hi)) | (go_at_call 11; (with_reducible refine (ping_Health_Got.calls k3 g177 t188 t189 t190 t191 t192 t193 x8_2 t194 t195 t196 t197 t198 t199 t200 w _ ?side1 ?side2 A46.out).mono ?_); (case side1 => repeat (first | (with_reducible first | exact HI177.out | apply IsS42.alloc | apply IsS42.drewN | apply IsS42.drew | apply IsS42.set_0 | apply IsS42.set_1 | apply IsS42.set_2 | apply IsS42.set_3 | apply IsS42.set_4 | apply IsS42.set_5) | exact HI177.out)); (case side2 => repeat (first | (with_reducible first | exact HB.out | apply below_alloc | apply pw_below_drewN | apply below_drew1 | refine below_set ?_ (IsS42.ge HI177.out)) | exact HB.out)); rintro e w48 ⟨rfl, hi, hb, hk⟩; have n0_ := Aside0.mk (hb); have n1_ := Aside0.mk (hi); clear HB; clear HI177; have HB := n0_; have HI177 := n1_; clear n0_ n1_; (try clear hb); (try clear hb2); (try clear hk); (try clear hi)))
                      go_ret
                      exact ⟨by first | rfl | (simp [errW_none, errW_some] <;> rfl) | (simp [*, errW_none, errW_some] <;> rfl), by repeat (first | (with_reducible first | exact HB.out | apply below_alloc | apply pw_below_drewN | apply below_drew1 | refine below_set ?_ (IsS42.ge HI177.out)) | exact HB.out)⟩
                    · replace c45 := Bool.eq_false_iff.mpr c45
                      subst c45
                      have H1 : (some false) = some r := by rw [if_neg (show ¬ (false = true) by decide)] at H; exact H
                      clear H
                      have H := H1
                      clear H1
                      obtain rfl := Option.some.inj H
                      go_wp2_with (first | ((with_reducible refine gate_callee (f := 10) rfl ?_); refine goesL_ (some 107) rfl rfl Try.func10 (by kernel_rfl) rfl #[.pointer (some ⟨g177, 0, none⟩)] rfl (by (try simp only [List.map_toArray, List.map_cons, List.map_nil]); first | done | rfl | (simp only [List.length_drop, List.length_take]; rfl)) ?_; (with_reducible refine (ping_Health_Tick.calls k3 g177 x178000_3 x178001_3 x178002_3 x178003_3 x178004_3 x178005_3 t186 false t188 t189 t190 t191 t192 t193 w _ ?side1 ?side2 A44.out).mono ?_); (case side1 => repeat (first | (with_reducible first | exact HI177.out | apply IsS42.alloc | apply IsS42.drewN | apply IsS42.drew | apply IsS42.set_0 | apply IsS42.set_1 | apply IsS42.set_2 | apply IsS42.set_3 | apply IsS42.set_4 | apply IsS42.set_5) | exact HI177.out)); (case side2 => repeat (first | (with_reducible first | exact HB.out | apply below_alloc | apply pw_below_drewN | apply below_drew1 | refine below_set ?_ (IsS42.ge HI177.out)) | exact HB.out)); rintro e w49 ⟨rfl, hi, hb, hk⟩; refine ⟨_, rfl, ?_⟩; have n0_ := Aside0.mk (hb); have n1_ := Aside0.mk (hi); clear HB; clear HI177; have HB := n0_; have HI177 := n1_; clear n0_ n1_; (try clear hb); (try clear hb2); (try clear hk); (try clear hi)))
                      go_ret
                      exact ⟨by first | rfl | (simp [errW_none, errW_some] <;> rfl) | (simp [*, errW_none, errW_some] <;> rfl), by repeat (first | (with_reducible first | exact HB.out | apply below_alloc | apply pw_below_drewN | apply below_drew1 | refine below_set ?_ (IsS42.ge HI177.out)) | exact HB.out)⟩

/-- THE ONE PURE STATEMENT of bywashlaw17_PingGone: yours. -/
def bywashlaw17_PingGone.Pure : Prop := ∀ (a0 : Int) (a1 : Int) (a2 : Int), (Lit.int .i64 a0).wf = true → (Lit.int .i64 a1).wf = true → (Lit.int .i64 a2).wf = true → ∃ k, bywashlaw17_PingGone.f k a0 a1 a2 = some true
theorem bywashlaw17_PingGone.walk (P : bywashlaw17_PingGone.Pure) (a0 : Int) (a1 : Int) (a2 : Int) (w : World) (w0 : (Lit.int .i64 a0).wf = true) (w1 : (Lit.int .i64 a1).wf = true) (w2 : (Lit.int .i64 a2).wf = true) :
    Calls Try.prog 4 #[.int .i64 a0, .int .i64 a1, .int .i64 a2] w fun e w' => e = .returned (.bool true) ∧ Below w.heap.size w w' := by
  obtain ⟨k, h⟩ := P a0 a1 a2 w0 w1 w2
  refine (bywashlaw17_PingGone.calls k a0 a1 a2 true w h).mono ?_
  rintro e w' ⟨rfl, hd⟩
  exact ⟨rfl, hd⟩

end Go.Proofs.Ytkakcalabpobpaa.PPingGone
