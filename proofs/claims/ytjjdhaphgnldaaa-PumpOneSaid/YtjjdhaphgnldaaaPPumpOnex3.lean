-- Written by a program of this session (a printed text, turned): functions that the law reaches.
import Derived.Test.YtjjdhaphgnldaaaPPumpOnex0
import Derived.Test.YtjjdhaphgnldaaaPPumpOnex2
namespace Go.Proofs.Ytjjdhaphgnldaaa.PPumpOne
open Go.RowKit Go.Proofs.YtjjdhaphgnldaaaW.PrintWords Go.Proofs.YtjjdhaphgnldaaaW.PrintLast Go.Proofs.YtjjdhaphgnldaaaW.PrintMore
attribute [local go_sem] max2_int min2_int max_two min_two max_three min_three max_four min_four   -- for this text's walks alone
set_option linter.unusedVariables false
set_option linter.unusedSimpArgs false

/-! ### bywashlaw16_PumpOne: function 5 -/
mutual
def bywashlaw16_PumpOne.j0 : Nat → Int → Int → Bool → Int → Int → Int → Bool → Option (Bool)
  | 0, _, _, _, _, _, _, _ => none
  | k + 1, x0, x1, x30, x124000, x124001, x124002, x124003 => if x30 = true then ((bywashlaw16_alive.f k).bind fun t125 => (some t125)) else ((pump_Plan.f k x0 x1 (([(⟨x124000, x124001, x124002, x124003⟩ : S26)] : List (S26)))).bind fun t129 => ((pump_Sum.f k t129).bind fun t132 => (if t132 = (mx (mn (mn x0 x124001) x124002) 0) then (if x1 = 0 then (none) else (bywashlaw16_PumpOne.j1 k x1 (mx (mn (mn x0 x124001) x124002) 0) t129 ((t129.length : Int) != (wrap64 (Int.tdiv (wrap64 ((wrap64 ((mx (mn (mn x0 x124001) x124002) 0) + x1)) - 1)) x1))) x124000 x124001 x124002 x124003)) else (bywashlaw16_PumpOne.j1 k x1 (mx (mn (mn x0 x124001) x124002) 0) t129 true x124000 x124001 x124002 x124003))))
def bywashlaw16_PumpOne.j1 : Nat → Int → Int → List (S34) → Bool → Int → Int → Int → Bool → Option (Bool)
  | 0, _, _, _, _, _, _, _, _ => none
  | k + 1, x1, x7, x8, x58, x124000, x124001, x124002, x124003 => if x58 = true then (some false) else (bywashlaw16_PumpOne.l0 k x1 x7 x8 x8 (x8.length : Int) 0 x124000 x124001 x124002 x124003)
def bywashlaw16_PumpOne.l0 : Nat → Int → Int → List (S34) → List (S34) → Int → Int → Int → Int → Int → Bool → Option (Bool)
  | 0, _, _, _, _, _, _, _, _, _, _ => none
  | k + 1, x1, x7, x8, x59, x60, x61, x124000, x124001, x124002, x124003 => if x61 < x60 then (if 0 ≤ x61 then (if x61 < (x59.length : Int) then (if ((rd_T34 x59 x61).f0) = x124000 then (if x61 < (wrap64 ((x8.length : Int) - 1)) then (if ((rd_T34 x59 x61).f1) = x1 then (if (rd_T34 x59 x61).f2 = true then (some false) else (if x61 = (wrap64 ((x8.length : Int) - 1)) then (if x124003 = true then (if (((rd_T34 x59 x61).f2) != (x7 == x124002)) = true then (some false) else (bywashlaw16_PumpOne.l0 k x1 x7 x8 x59 x60 (wrap64 (x61 + 1)) x124000 x124001 x124002 x124003)) else (if (((rd_T34 x59 x61).f2) != false) = true then (some false) else (bywashlaw16_PumpOne.l0 k x1 x7 x8 x59 x60 (wrap64 (x61 + 1)) x124000 x124001 x124002 x124003))) else (bywashlaw16_PumpOne.l0 k x1 x7 x8 x59 x60 (wrap64 (x61 + 1)) x124000 x124001 x124002 x124003))) else (some false)) else (if x61 = (wrap64 ((x8.length : Int) - 1)) then (if x124003 = true then (if (((rd_T34 x59 x61).f2) != (x7 == x124002)) = true then (some false) else (bywashlaw16_PumpOne.l0 k x1 x7 x8 x59 x60 (wrap64 (x61 + 1)) x124000 x124001 x124002 x124003)) else (if (((rd_T34 x59 x61).f2) != false) = true then (some false) else (bywashlaw16_PumpOne.l0 k x1 x7 x8 x59 x60 (wrap64 (x61 + 1)) x124000 x124001 x124002 x124003))) else (bywashlaw16_PumpOne.l0 k x1 x7 x8 x59 x60 (wrap64 (x61 + 1)) x124000 x124001 x124002 x124003))) else (some false)) else (none)) else (none)) else (some true)
end
def bywashlaw16_PumpOne.f (k : Nat) (a0 : Int) (a1 : Int) (a2_0 : Int) (a2_1 : Int) (a2_2 : Int) (a2_3 : Bool) : Option (Bool) := if a1 < 1 then (bywashlaw16_PumpOne.j0 k a0 a1 true a2_0 a2_1 a2_2 a2_3) else (if a1 > 1000 then (bywashlaw16_PumpOne.j0 k a0 a1 true a2_0 a2_1 a2_2 a2_3) else (if a2_2 < 1 then (bywashlaw16_PumpOne.j0 k a0 a1 true a2_0 a2_1 a2_2 a2_3) else (if a2_2 > 3000 then (bywashlaw16_PumpOne.j0 k a0 a1 true a2_0 a2_1 a2_2 a2_3) else ((bywashlaw16_alive.f k).bind fun t124 => (bywashlaw16_PumpOne.j0 k a0 a1 (!t124) a2_0 a2_1 a2_2 a2_3)))))
theorem bywashlaw16_PumpOne.mono_l : ∀ k, (∀ y0 y1 y2 y3 y4 y5 y6, LeO (bywashlaw16_PumpOne.j0 k y0 y1 y2 y3 y4 y5 y6) (bywashlaw16_PumpOne.j0 (k + 1) y0 y1 y2 y3 y4 y5 y6)) ∧ (∀ y0 y1 y2 y3 y4 y5 y6 y7, LeO (bywashlaw16_PumpOne.j1 k y0 y1 y2 y3 y4 y5 y6 y7) (bywashlaw16_PumpOne.j1 (k + 1) y0 y1 y2 y3 y4 y5 y6 y7)) ∧ (∀ y0 y1 y2 y3 y4 y5 y6 y7 y8 y9, LeO (bywashlaw16_PumpOne.l0 k y0 y1 y2 y3 y4 y5 y6 y7 y8 y9) (bywashlaw16_PumpOne.l0 (k + 1) y0 y1 y2 y3 y4 y5 y6 y7 y8 y9))
  | 0 => ⟨fun _ _ _ _ _ _ _ r h => by simp [bywashlaw16_PumpOne.j0] at h, fun _ _ _ _ _ _ _ _ r h => by simp [bywashlaw16_PumpOne.j1] at h, fun _ _ _ _ _ _ _ _ _ _ r h => by simp [bywashlaw16_PumpOne.l0] at h⟩
  | k + 1 => by
    obtain ⟨ih0, ih1, ih2⟩ := bywashlaw16_PumpOne.mono_l k
    refine ⟨?_, ?_, ?_⟩
    · intro y0 y1 y2 y3 y4 y5 y6
      unfold bywashlaw16_PumpOne.j0
      repeat' first
      | (with_reducible exact ih0 _ _ _ _ _ _ _)
      | (with_reducible exact ih1 _ _ _ _ _ _ _ _)
      | (with_reducible exact ih2 _ _ _ _ _ _ _ _ _ _)
      | (with_reducible exact bywashlaw16_alive.mono _)
      | (with_reducible exact pump_Plan.mono _ _ _ _)
      | (with_reducible exact pump_Sum.mono _ _)
      | (with_reducible exact LeO.refl _)
      | (with_reducible exact LeO.none _)
      | (with_reducible refine LeO.ite ?_ ?_)
      | (with_reducible refine LeO.bind ?_ (fun _ => ?_))
      | exact ih0 _ _ _ _ _ _ _
      | exact ih1 _ _ _ _ _ _ _ _
      | exact ih2 _ _ _ _ _ _ _ _ _ _
      | exact bywashlaw16_alive.mono _
      | exact pump_Plan.mono _ _ _ _
      | exact pump_Sum.mono _ _
      | exact LeO.none _
      | refine LeO.ite ?_ ?_
      | refine LeO.bind ?_ (fun _ => ?_)
    · intro y0 y1 y2 y3 y4 y5 y6 y7
      unfold bywashlaw16_PumpOne.j1
      repeat' first
      | (with_reducible exact ih0 _ _ _ _ _ _ _)
      | (with_reducible exact ih1 _ _ _ _ _ _ _ _)
      | (with_reducible exact ih2 _ _ _ _ _ _ _ _ _ _)
      | (with_reducible exact bywashlaw16_alive.mono _)
      | (with_reducible exact pump_Plan.mono _ _ _ _)
      | (with_reducible exact pump_Sum.mono _ _)
      | (with_reducible exact LeO.refl _)
      | (with_reducible exact LeO.none _)
      | (with_reducible refine LeO.ite ?_ ?_)
      | (with_reducible refine LeO.bind ?_ (fun _ => ?_))
      | exact ih0 _ _ _ _ _ _ _
      | exact ih1 _ _ _ _ _ _ _ _
      | exact ih2 _ _ _ _ _ _ _ _ _ _
      | exact bywashlaw16_alive.mono _
      | exact pump_Plan.mono _ _ _ _
      | exact pump_Sum.mono _ _
      | exact LeO.none _
      | refine LeO.ite ?_ ?_
      | refine LeO.bind ?_ (fun _ => ?_)
    · intro y0 y1 y2 y3 y4 y5 y6 y7 y8 y9
      unfold bywashlaw16_PumpOne.l0
      repeat' first
      | (with_reducible exact ih0 _ _ _ _ _ _ _)
      | (with_reducible exact ih1 _ _ _ _ _ _ _ _)
      | (with_reducible exact ih2 _ _ _ _ _ _ _ _ _ _)
      | (with_reducible exact bywashlaw16_alive.mono _)
      | (with_reducible exact pump_Plan.mono _ _ _ _)
      | (with_reducible exact pump_Sum.mono _ _)
      | (with_reducible exact LeO.refl _)
      | (with_reducible exact LeO.none _)
      | (with_reducible refine LeO.ite ?_ ?_)
      | (with_reducible refine LeO.bind ?_ (fun _ => ?_))
      | exact ih0 _ _ _ _ _ _ _
      | exact ih1 _ _ _ _ _ _ _ _
      | exact ih2 _ _ _ _ _ _ _ _ _ _
      | exact bywashlaw16_alive.mono _
      | exact pump_Plan.mono _ _ _ _
      | exact pump_Sum.mono _ _
      | exact LeO.none _
      | refine LeO.ite ?_ ?_
      | refine LeO.bind ?_ (fun _ => ?_)
theorem bywashlaw16_PumpOne.mono : ∀ a0 a1 a2 a3 a4 a5 k, LeO (bywashlaw16_PumpOne.f k a0 a1 a2 a3 a4 a5) (bywashlaw16_PumpOne.f (k + 1) a0 a1 a2 a3 a4 a5) := by
  intro a0 a1 a2 a3 a4 a5 k
  obtain ⟨ih0, ih1, ih2⟩ := bywashlaw16_PumpOne.mono_l k
  unfold bywashlaw16_PumpOne.f
  repeat' first
      | (with_reducible exact ih0 _ _ _ _ _ _ _)
      | (with_reducible exact ih1 _ _ _ _ _ _ _ _)
      | (with_reducible exact ih2 _ _ _ _ _ _ _ _ _ _)
      | (with_reducible exact bywashlaw16_alive.mono _)
      | (with_reducible exact pump_Plan.mono _ _ _ _)
      | (with_reducible exact pump_Sum.mono _ _)
      | (with_reducible exact LeO.refl _)
      | (with_reducible exact LeO.none _)
      | (with_reducible refine LeO.ite ?_ ?_)
      | (with_reducible refine LeO.bind ?_ (fun _ => ?_))
      | exact ih0 _ _ _ _ _ _ _
      | exact ih1 _ _ _ _ _ _ _ _
      | exact ih2 _ _ _ _ _ _ _ _ _ _
      | exact bywashlaw16_alive.mono _
      | exact pump_Plan.mono _ _ _ _
      | exact pump_Sum.mono _ _
      | exact LeO.none _
      | refine LeO.ite ?_ ?_
      | refine LeO.bind ?_ (fun _ => ?_)
set_option maxHeartbeats 8000000 in
set_option maxRecDepth 100000 in
theorem bywashlaw16_PumpOne.calls (k : Nat) (a0 : Int) (a1 : Int) (a2_0 : Int) (a2_1 : Int) (a2_2 : Int) (a2_3 : Bool) (r : Bool) (w : World) (h : bywashlaw16_PumpOne.f k a0 a1 a2_0 a2_1 a2_2 a2_3 = some r) :
    Calls Try.prog 5 #[.int .i64 a0, .int .i64 a1, .agg #[.int .i64 a2_0, .int .i64 a2_1, .int .i64 a2_2, .bool a2_3]] w fun e w' => e = .returned (.bool r) ∧ Below w.heap.size w w' := by
  have hu26 := Try.underlying26
  have hu34 := Try.underlying34
  have HB := Aside0.mk (Below.refl w.heap.size w)
  have H : (if a1 < 1 then (bywashlaw16_PumpOne.j0 k a0 a1 true a2_0 a2_1 a2_2 a2_3) else (if a1 > 1000 then (bywashlaw16_PumpOne.j0 k a0 a1 true a2_0 a2_1 a2_2 a2_3) else (if a2_2 < 1 then (bywashlaw16_PumpOne.j0 k a0 a1 true a2_0 a2_1 a2_2 a2_3) else (if a2_2 > 3000 then (bywashlaw16_PumpOne.j0 k a0 a1 true a2_0 a2_1 a2_2 a2_3) else ((bywashlaw16_alive.f k).bind fun t124 => (bywashlaw16_PumpOne.j0 k a0 a1 (!t124) a2_0 a2_1 a2_2 a2_3)))))) = some r := h
  clear h
  have HC4 := Aside0.mk H
  clear H
  go_enter Try.func5, Try.ntmps5
  go_upto_region 1 with (first | ((with_reducible refine gate_dst (N := 5) rfl ?_); (try (refine gate_guard (by rfl) ?_; dsimp only)); refine box_event ?hg (N := 5) ?hd (cs := #[.int .i64 a2_0, .int .i64 a2_1, .int .i64 a2_2, .bool a2_3]) (t := 26) ?hr ?_; (case hd => rfl); (case hg => rfl); (case hr => first | (go_simp; done) | (go_simp; rfl)); intro gb123 hg w5 hbox hb; have n0_ := Aside0.mk (below_step (by repeat (first | (with_reducible first | exact HB.out | apply below_alloc | apply pw_below_drewN | apply below_drew1) | exact HB.out)) hb); have n1_ := Aside0.mk (hbox); have n2_ := Aside0.mk ((by rw [hg]; exact (below_size (by repeat (first | (with_reducible first | exact HB.out | apply below_alloc | apply pw_below_drewN | apply below_drew1) | exact HB.out))) : w.heap.size ≤ gb123)); have n3_ := Aside0.mk ((by rw [hg]; exact (below_size (by repeat (first | (with_reducible first | exact HB.out | apply below_alloc | apply pw_below_drewN | apply below_drew1) | exact HB.out))) : w.heap.size ≤ gb123)); clear HB; have HB := n0_; have BK123 := n1_; have GW123 := n2_; have GE123 := n3_; clear n0_ n1_ n2_ n3_; clear hb hbox hg))
  (try simp only [Act.put, List.setIfInBounds_toArray, List.set_cons_zero, List.set_cons_succ])
  go_cut [30] (fun v30 wc => ∃ (kq : Nat) (x30_3 : Bool), v30 = .bool x30_3 ∧ Aside0 (bywashlaw16_PumpOne.j0 kq a0 a1 x30_3 a2_0 a2_1 a2_2 a2_3 = some r) ∧ Aside0 (kq ≤ k) ∧ Aside0 (wc.heap[gb123]? = some (.cells #[.int .i64 a2_0, .int .i64 a2_1, .int .i64 a2_2, .bool a2_3] 26 (0, 0))) ∧ Aside0 (Below w.heap.size w wc))
  case first =>
    have H := HC4.out
    clear HC4
    by_cases c6 : a1 < 1
    · rw [if_pos c6] at H
      have c6b0 : decide (a1 < 1) = true := decide_eq_true c6
      clear c6
      (first | rw [c6b0] | (simp only [i64_w, i32_w]; rw [c6b0]) | skip)
      have H' := Aside0.mk H
      clear H
      go_wp2
      go_meet
      case rel => exact ⟨_, (true), (by first | rfl | (simp; done) | (simp [*]; done)), H', ⟨by first | omega | exact Nat.le_refl _⟩, ⟨by (with_reducible repeat (first | refine blk_drewN ?_ _ | refine blk_drew ?_ | refine blk_alloc ?_ _)); exact BK123.out⟩, ⟨by repeat (first | (with_reducible first | exact HB.out | apply below_alloc | apply pw_below_drewN | apply below_drew1 | refine below_set ?_ GE123.out) | exact HB.out)⟩⟩
    · rw [if_neg c6] at H
      have c6b0 : decide (a1 < 1) = false := decide_eq_false c6
      clear c6
      (first | rw [c6b0] | (simp only [i64_w, i32_w]; rw [c6b0]) | skip)
      by_cases c7 : a1 > 1000
      · rw [if_pos c7] at H
        have c7b0 : decide (1000 < a1) = true := decide_eq_true c7
        clear c7
        have H' := Aside0.mk H
        clear H
        go_wp2
        go_meet
        case rel => exact ⟨_, (true), (by first | rfl | (simp; done) | (simp [*]; done)), H', ⟨by first | omega | exact Nat.le_refl _⟩, ⟨by (with_reducible repeat (first | refine blk_drewN ?_ _ | refine blk_drew ?_ | refine blk_alloc ?_ _)); exact BK123.out⟩, ⟨by repeat (first | (with_reducible first | exact HB.out | apply below_alloc | apply pw_below_drewN | apply below_drew1 | refine below_set ?_ GE123.out) | exact HB.out)⟩⟩
      · rw [if_neg c7] at H
        have c7b0 : decide (1000 < a1) = false := decide_eq_false c7
        clear c7
        by_cases c8 : a2_2 < 1
        · rw [if_pos c8] at H
          have c8b0 : decide (a2_2 < 1) = true := decide_eq_true c8
          clear c8
          have H' := Aside0.mk H
          clear H
          have hcz9_0 : w5.cell? ⟨gb123, 0, none⟩ = some (.int .i64 a2_0) := (blk_cell BK123.out 0).trans rfl
          have hcz9_1 : w5.cell? ⟨gb123, 1, none⟩ = some (.int .i64 a2_1) := (blk_cell BK123.out 1).trans rfl
          have hcz9_2 : w5.cell? ⟨gb123, 2, none⟩ = some (.int .i64 a2_2) := (blk_cell BK123.out 2).trans rfl
          have hcz9_3 : w5.cell? ⟨gb123, 3, none⟩ = some (.bool a2_3) := (blk_cell BK123.out 3).trans rfl
          have hfz9_0 := blk_frozen BK123.out 0
          have hfz9_1 := blk_frozen BK123.out 1
          have hfz9_2 := blk_frozen BK123.out 2
          have hfz9_3 := blk_frozen BK123.out 3
          go_wp2
          go_meet
          case rel => exact ⟨_, (true), (by first | rfl | (simp; done) | (simp [*]; done)), H', ⟨by first | omega | exact Nat.le_refl _⟩, ⟨by (with_reducible repeat (first | refine blk_drewN ?_ _ | refine blk_drew ?_ | refine blk_alloc ?_ _)); exact BK123.out⟩, ⟨by repeat (first | (with_reducible first | exact HB.out | apply below_alloc | apply pw_below_drewN | apply below_drew1 | refine below_set ?_ GE123.out) | exact HB.out)⟩⟩
        · rw [if_neg c8] at H
          have c8b0 : decide (a2_2 < 1) = false := decide_eq_false c8
          clear c8
          by_cases c10 : a2_2 > 3000
          · rw [if_pos c10] at H
            have c10b0 : decide (3000 < a2_2) = true := decide_eq_true c10
            clear c10
            have H' := Aside0.mk H
            clear H
            have hcz11_0 : w5.cell? ⟨gb123, 0, none⟩ = some (.int .i64 a2_0) := (blk_cell BK123.out 0).trans rfl
            have hcz11_1 : w5.cell? ⟨gb123, 1, none⟩ = some (.int .i64 a2_1) := (blk_cell BK123.out 1).trans rfl
            have hcz11_2 : w5.cell? ⟨gb123, 2, none⟩ = some (.int .i64 a2_2) := (blk_cell BK123.out 2).trans rfl
            have hcz11_3 : w5.cell? ⟨gb123, 3, none⟩ = some (.bool a2_3) := (blk_cell BK123.out 3).trans rfl
            have hfz11_0 := blk_frozen BK123.out 0
            have hfz11_1 := blk_frozen BK123.out 1
            have hfz11_2 := blk_frozen BK123.out 2
            have hfz11_3 := blk_frozen BK123.out 3
            go_wp2
            go_meet
            case rel => exact ⟨_, (true), (by first | rfl | (simp; done) | (simp [*]; done)), H', ⟨by first | omega | exact Nat.le_refl _⟩, ⟨by (with_reducible repeat (first | refine blk_drewN ?_ _ | refine blk_drew ?_ | refine blk_alloc ?_ _)); exact BK123.out⟩, ⟨by repeat (first | (with_reducible first | exact HB.out | apply below_alloc | apply pw_below_drewN | apply below_drew1 | refine below_set ?_ GE123.out) | exact HB.out)⟩⟩
          · rw [if_neg c10] at H
            have c10b0 : decide (3000 < a2_2) = false := decide_eq_false c10
            clear c10
            replace H := Option.bind_eq_some_iff.mp H
            obtain ⟨t124, A120, H⟩ := H
            replace H : (bywashlaw16_PumpOne.j0 k a0 a1 (!t124) a2_0 a2_1 a2_2 a2_3) = some r := H
            have A12 := Aside0.mk A120
            clear A120
            have H' := Aside0.mk H
            clear H
            have hcz13_0 : w5.cell? ⟨gb123, 0, none⟩ = some (.int .i64 a2_0) := (blk_cell BK123.out 0).trans rfl
            have hcz13_1 : w5.cell? ⟨gb123, 1, none⟩ = some (.int .i64 a2_1) := (blk_cell BK123.out 1).trans rfl
            have hcz13_2 : w5.cell? ⟨gb123, 2, none⟩ = some (.int .i64 a2_2) := (blk_cell BK123.out 2).trans rfl
            have hcz13_3 : w5.cell? ⟨gb123, 3, none⟩ = some (.bool a2_3) := (blk_cell BK123.out 3).trans rfl
            have hfz13_0 := blk_frozen BK123.out 0
            have hfz13_1 := blk_frozen BK123.out 1
            have hfz13_2 := blk_frozen BK123.out 2
            have hfz13_3 := blk_frozen BK123.out 3
            go_wp2_with (first | (go_at_call 9; (with_reducible refine (bywashlaw16_alive.calls k  t124 _ A12.out).mono ?_); rintro e w14 ⟨rfl, hb⟩; have n0_ := Aside0.mk (blk_below (g := gb123) (o := .cells #[.int .i64 a2_0, .int .i64 a2_1, .int .i64 a2_2, .bool a2_3] 26 (0, 0)) (by (with_reducible repeat (first | refine blk_drewN ?_ _ | refine blk_drew ?_ | refine blk_alloc ?_ _)); exact BK123.out) hb); have n1_ := Aside0.mk (below_step (by repeat (first | (with_reducible first | exact HB.out | apply below_alloc | apply pw_below_drewN | apply below_drew1 | refine below_set ?_ GE123.out) | exact HB.out)) hb); clear BK123; clear HB; have BK123 := n0_; have HB := n1_; clear n0_ n1_; (try clear hb); (try clear hb2); (try clear hk); (try clear hi)))
            go_meet
            case rel => exact ⟨_, (!t124), (by first | rfl | (simp; done) | (simp [*]; done)), H', ⟨by first | omega | exact Nat.le_refl _⟩, ⟨by (with_reducible repeat (first | refine blk_drewN ?_ _ | refine blk_drew ?_ | refine blk_alloc ?_ _)); exact BK123.out⟩, ⟨by repeat (first | (with_reducible first | exact HB.out | apply below_alloc | apply pw_below_drewN | apply below_drew1 | refine below_set ?_ GE123.out) | exact HB.out)⟩⟩
  case rest =>
    clear HC4
    try clear c1
    try clear p2
    try clear c5
    try clear c6
    try clear c6b0
    try clear c7
    try clear c7b0
    try clear c8
    try clear c8b0
    try clear c10
    try clear c10b0
    try clear hcz11_0
    try clear hcz11_1
    try clear hcz11_2
    try clear hcz11_3
    try clear hcz13_0
    try clear hcz13_1
    try clear hcz13_2
    try clear hcz13_3
    try clear hcz9_0
    try clear hcz9_1
    try clear hcz9_2
    try clear hcz9_3
    try clear hfz11_0
    try clear hfz11_1
    try clear hfz11_2
    try clear hfz11_3
    try clear hfz13_0
    try clear hfz13_1
    try clear hfz13_2
    try clear hfz13_3
    try clear hfz9_0
    try clear hfz9_1
    try clear hfz9_2
    try clear hfz9_3
    obtain ⟨kq, x30_3, rfl, HA, HJ3, BK123, HB⟩ := hcut
    cases kq with
    | zero => exact absurd HA.out (by simp [bywashlaw16_PumpOne.j0])
    | succ kj3 =>
      have H := HA.out
      clear HA
      simp only [bywashlaw16_PumpOne.j0] at H
      by_cases c15 : x30_3 = true
      · subst c15
        have H1 : ((bywashlaw16_alive.f kj3).bind fun t125 => (some t125)) = some r := by rw [if_pos rfl] at H; exact H
        clear H
        have H := H1
        clear H1
        replace H := Option.bind_eq_some_iff.mp H
        obtain ⟨t125, A160, H⟩ := H
        replace H : (some t125) = some r := H
        have A16 := Aside0.mk A160
        clear A160
        obtain rfl := Option.some.inj H
        go_wp2_with (first | ((with_reducible refine gate_callee (f := 9) rfl ?_); refine goesL_ (some 31) rfl rfl Try.func9 (by kernel_rfl) rfl #[] rfl (by (try simp only [List.map_toArray, List.map_cons, List.map_nil]); first | done | rfl | (simp only [List.length_drop, List.length_take]; rfl)) ?_; (with_reducible refine (bywashlaw16_alive.calls kj3  t125 _ A16.out).mono ?_); rintro e w17 ⟨rfl, hb⟩; refine ⟨_, rfl, ?_⟩; have n0_ := Aside0.mk (blk_below (g := gb123) (o := .cells #[.int .i64 a2_0, .int .i64 a2_1, .int .i64 a2_2, .bool a2_3] 26 (0, 0)) (by (with_reducible repeat (first | refine blk_drewN ?_ _ | refine blk_drew ?_ | refine blk_alloc ?_ _)); exact BK123.out) hb); have n1_ := Aside0.mk (below_step (by repeat (first | (with_reducible first | exact HB.out | apply below_alloc | apply pw_below_drewN | apply below_drew1 | refine below_set ?_ GE123.out) | exact HB.out)) hb); clear BK123; clear HB; have BK123 := n0_; have HB := n1_; clear n0_ n1_; (try clear hb); (try clear hb2); (try clear hk); (try clear hi)))
        go_ret
        exact ⟨by first | rfl | (simp [errW_none, errW_some] <;> rfl) | (simp [*, errW_none, errW_some] <;> rfl), by repeat (first | (with_reducible first | exact HB.out | apply below_alloc | apply pw_below_drewN | apply below_drew1 | refine below_set ?_ GE123.out) | exact HB.out)⟩
      · replace c15 := Bool.eq_false_iff.mpr c15
        subst c15
        have H1 : ((pump_Plan.f kj3 a0 a1 (([(⟨a2_0, a2_1, a2_2, a2_3⟩ : S26)] : List (S26)))).bind fun t129 => ((pump_Sum.f kj3 t129).bind fun t132 => (if t132 = (mx (mn (mn a0 a2_1) a2_2) 0) then (if a1 = 0 then (none) else (bywashlaw16_PumpOne.j1 kj3 a1 (mx (mn (mn a0 a2_1) a2_2) 0) t129 ((t129.length : Int) != (wrap64 (Int.tdiv (wrap64 ((wrap64 ((mx (mn (mn a0 a2_1) a2_2) 0) + a1)) - 1)) a1))) a2_0 a2_1 a2_2 a2_3)) else (bywashlaw16_PumpOne.j1 kj3 a1 (mx (mn (mn a0 a2_1) a2_2) 0) t129 true a2_0 a2_1 a2_2 a2_3)))) = some r := by rw [if_neg (show ¬ (false = true) by decide)] at H; exact H
        clear H
        have H := H1
        clear H1
        obtain ⟨ji18, hji18⟩ : ∃ j_ : Int, (mn a0 a2_1) = j_ := ⟨_, rfl⟩
        replace H : ((pump_Plan.f kj3 a0 a1 (([(⟨a2_0, a2_1, a2_2, a2_3⟩ : S26)] : List (S26)))).bind fun t129 => ((pump_Sum.f kj3 t129).bind fun t132 => (if t132 = (mx (mn (ji18) a2_2) 0) then (if a1 = 0 then (none) else (bywashlaw16_PumpOne.j1 kj3 a1 (mx (mn (ji18) a2_2) 0) t129 ((t129.length : Int) != (wrap64 (Int.tdiv (wrap64 ((wrap64 ((mx (mn (ji18) a2_2) 0) + a1)) - 1)) a1))) a2_0 a2_1 a2_2 a2_3)) else (bywashlaw16_PumpOne.j1 kj3 a1 (mx (mn (ji18) a2_2) 0) t129 true a2_0 a2_1 a2_2 a2_3)))) = some r := by first | (rw [hji18] at H; exact H) | (simp only [hji18] at H ⊢; exact H)
        have hji18_ : (if a2_1 < a0 then a2_1 else a0) = ji18 := hji18
        obtain ⟨ji19, hji19⟩ : ∃ j_ : Int, (mn (ji18) a2_2) = j_ := ⟨_, rfl⟩
        replace H : ((pump_Plan.f kj3 a0 a1 (([(⟨a2_0, a2_1, a2_2, a2_3⟩ : S26)] : List (S26)))).bind fun t129 => ((pump_Sum.f kj3 t129).bind fun t132 => (if t132 = (mx (ji19) 0) then (if a1 = 0 then (none) else (bywashlaw16_PumpOne.j1 kj3 a1 (mx (ji19) 0) t129 ((t129.length : Int) != (wrap64 (Int.tdiv (wrap64 ((wrap64 ((mx (ji19) 0) + a1)) - 1)) a1))) a2_0 a2_1 a2_2 a2_3)) else (bywashlaw16_PumpOne.j1 kj3 a1 (mx (ji19) 0) t129 true a2_0 a2_1 a2_2 a2_3)))) = some r := by first | (rw [hji19] at H; exact H) | (simp only [hji19] at H ⊢; exact H)
        have hji19_ : (if a2_2 < (ji18) then a2_2 else (ji18)) = ji19 := hji19
        obtain ⟨ji20, hji20⟩ : ∃ j_ : Int, (mx (ji19) 0) = j_ := ⟨_, rfl⟩
        replace H : ((pump_Plan.f kj3 a0 a1 (([(⟨a2_0, a2_1, a2_2, a2_3⟩ : S26)] : List (S26)))).bind fun t129 => ((pump_Sum.f kj3 t129).bind fun t132 => (if t132 = (ji20) then (if a1 = 0 then (none) else (bywashlaw16_PumpOne.j1 kj3 a1 ji20 t129 ((t129.length : Int) != (wrap64 (Int.tdiv (wrap64 ((wrap64 ((ji20) + a1)) - 1)) a1))) a2_0 a2_1 a2_2 a2_3)) else (bywashlaw16_PumpOne.j1 kj3 a1 ji20 t129 true a2_0 a2_1 a2_2 a2_3)))) = some r := by first | (rw [hji20] at H; exact H) | (simp only [hji20] at H ⊢; exact H)
        have hji20_ : (if (ji19) < 0 then 0 else (ji19)) = ji20 := hji20
        obtain ⟨y126, hy126⟩ : ∃ y_ : List (S26), y_ = (([(⟨a2_0, a2_1, a2_2, a2_3⟩ : S26)] : List (S26))) := ⟨_, rfl⟩
        replace H : ((pump_Plan.f kj3 a0 a1 y126).bind fun t129 => ((pump_Sum.f kj3 t129).bind fun t132 => (if t132 = (ji20) then (if a1 = 0 then (none) else (bywashlaw16_PumpOne.j1 kj3 a1 ji20 t129 ((t129.length : Int) != (wrap64 (Int.tdiv (wrap64 ((wrap64 ((ji20) + a1)) - 1)) a1))) a2_0 a2_1 a2_2 a2_3)) else (bywashlaw16_PumpOne.j1 kj3 a1 ji20 t129 true a2_0 a2_1 a2_2 a2_3)))) = some r := by first | (rw [hy126]; with_reducible exact H) | (have H2_ := (Option.bind_some _ _).symm.trans H; rw [hy126]; with_reducible exact H2_) | (have H2_ := (Option.bind_some _ _).symm.trans H; with_reducible exact H2_) | with_reducible exact H | (rw [hy126]; exact H) | exact H
        have Ny126 := Aside0.mk hy126
        clear hy126
        replace H := Option.bind_eq_some_iff.mp H
        obtain ⟨t129, A210, H⟩ := H
        replace H : ((pump_Sum.f kj3 t129).bind fun t132 => (if t132 = (ji20) then (if a1 = 0 then (none) else (bywashlaw16_PumpOne.j1 kj3 a1 ji20 t129 ((t129.length : Int) != (wrap64 (Int.tdiv (wrap64 ((wrap64 ((ji20) + a1)) - 1)) a1))) a2_0 a2_1 a2_2 a2_3)) else (bywashlaw16_PumpOne.j1 kj3 a1 ji20 t129 true a2_0 a2_1 a2_2 a2_3))) = some r := H
        have A21 := Aside0.mk A210
        clear A210
        have HC22 := Aside0.mk H
        clear H
        have hcz23_0 : wc.cell? ⟨gb123, 0, none⟩ = some (.int .i64 a2_0) := (blk_cell BK123.out 0).trans rfl
        have hcz23_1 : wc.cell? ⟨gb123, 1, none⟩ = some (.int .i64 a2_1) := (blk_cell BK123.out 1).trans rfl
        have hcz23_2 : wc.cell? ⟨gb123, 2, none⟩ = some (.int .i64 a2_2) := (blk_cell BK123.out 2).trans rfl
        have hcz23_3 : wc.cell? ⟨gb123, 3, none⟩ = some (.bool a2_3) := (blk_cell BK123.out 3).trans rfl
        have hfz23_0 := blk_frozen BK123.out 0
        have hfz23_1 := blk_frozen BK123.out 1
        have hfz23_2 := blk_frozen BK123.out 2
        have hfz23_3 := blk_frozen BK123.out 3
        go_upto_region 5 with (first | ((with_reducible refine gate_dst (N := 42) rfl ?_); (try (refine gate_guard (by rfl) ?_; dsimp only)); refine Kd.R_lit k26 _ 26 ?hg (N := 42) ?hd (xs := ([(⟨a2_0, a2_1, a2_2, a2_3⟩ : S26)] : List (S26))) (inner := [.int .i64 a2_0, .int .i64 a2_1, .int .i64 a2_2, .bool a2_3]) (ok := fun _ => True) (okp := fun _ => True) ?hr ?hp (fun _ hk => hk) trivial (Below.refl _ _) (Nat.le_refl _) (by simp) ?_; (case hd => rfl); (case hg => rfl); (case hr => first | (go_simp; done) | (go_simp; rfl)); (case hp => exact (Reps.c4 (show Kd.M k26 _ _ _ (⟨a2_0, a2_1, a2_2, a2_3⟩ : S26) [.int .i64 a2_0, .int .i64 a2_1, .int .i64 a2_2, .bool a2_3] from (k26_mkM _ _ _ (⟨a2_0, a2_1, a2_2, a2_3⟩ : S26) )) (Reps.none _ _))); intro v127 w24 ho25 hb hg_ hnew_; clear hg_ hnew_; (first | rw [← Ny126.out] at ho25 | (simp only [Int.reduceToNat] at ho25; rw [← Ny126.out] at ho25)); have n0_ := Aside0.mk (Kd.R_lower (Kd.R_newB ho25 (g := gb123) (o := .cells #[.int .i64 a2_0, .int .i64 a2_1, .int .i64 a2_2, .bool a2_3] 26 (0, 0)) (by (with_reducible repeat (first | refine blk_drewN ?_ _ | refine blk_drew ?_ | refine blk_alloc ?_ _)); exact BK123.out)) (below_size (by repeat (first | (with_reducible first | exact HB.out | apply below_alloc | apply pw_below_drewN | apply below_drew1 | refine below_set ?_ GE123.out) | exact HB.out)))); have n1_ := Aside0.mk (blk_below (g := gb123) (o := .cells #[.int .i64 a2_0, .int .i64 a2_1, .int .i64 a2_2, .bool a2_3] 26 (0, 0)) (by (with_reducible repeat (first | refine blk_drewN ?_ _ | refine blk_drew ?_ | refine blk_alloc ?_ _)); exact BK123.out) hb); have n2_ := Aside0.mk (below_step (by repeat (first | (with_reducible first | exact HB.out | apply below_alloc | apply pw_below_drewN | apply below_drew1 | refine below_set ?_ GE123.out) | exact HB.out)) hb); clear BK123; clear HB; have HO128 := n0_; have BK123 := n1_; have HB := n2_; clear n0_ n1_ n2_; clear hb ho25; obtain ⟨Ao26, co26, eo26⟩ := Kd.R_slice HO128.out; subst eo26) | ((with_reducible refine gate_callee (f := 11) rfl ?_); refine goesL_ (some 43) rfl rfl Try.func11 (by kernel_rfl) rfl #[.int .i64 a0, .int .i64 a1, .slice Ao26 y126.length co26] rfl (by (try simp only [List.map_toArray, List.map_cons, List.map_nil]); first | done | rfl | (simp only [List.length_drop, List.length_take]; rfl)) ?_; (with_reducible refine (pump_Plan.calls kj3 a0 a1 _ _ y126 t129 _ ?side1 ?side2 A21.out).mono ?_); (case side1 => repeat (first | exact (Kd.R_reads' HO128.out).2.2 | (with_reducible refine Kd.C_alloc ?_ _) | (with_reducible refine Kd.C_drewN ?_ _) | (with_reducible refine Kd.C_drew ?_))); (case side2 => exact (Kd.R_reads' HO128.out).2.1); rintro e w27 ⟨v130, rfl, ho0, hb⟩; refine ⟨_, rfl, ?_⟩; have n0_ := Aside0.mk (Kd.R_below (by (with_reducible repeat (first | apply Kd.R_alloc | apply Kd.R_drewN | apply Kd.R_drew)); exact HO128.out) hb); have n1_ := Aside0.mk (Kd.R_lower ho0 (below_size (by repeat (first | (with_reducible first | exact HB.out | apply below_alloc | apply pw_below_drewN | apply below_drew1 | refine below_set ?_ GE123.out) | exact HB.out)))); have n2_ := Aside0.mk (blk_below (g := gb123) (o := .cells #[.int .i64 a2_0, .int .i64 a2_1, .int .i64 a2_2, .bool a2_3] 26 (0, 0)) (by (with_reducible repeat (first | refine blk_drewN ?_ _ | refine blk_drew ?_ | refine blk_alloc ?_ _)); exact BK123.out) hb); have n3_ := Aside0.mk (below_step (by repeat (first | (with_reducible first | exact HB.out | apply below_alloc | apply pw_below_drewN | apply below_drew1 | refine below_set ?_ GE123.out) | exact HB.out)) hb); clear HO128; clear BK123; clear HB; have HO128 := n0_; have HO131 := n1_; have BK123 := n2_; have HB := n3_; clear n0_ n1_ n2_ n3_; (try clear hb); (try clear hb2); (try clear hk); (try clear hi); (try clear ho0)))
        (try simp only [Act.put, List.setIfInBounds_toArray, List.set_cons_zero, List.set_cons_succ])
        go_cut [58] (fun v58 wc => ∃ (kq : Nat) (x58_21 : Bool), v58 = .bool x58_21 ∧ Aside0 (bywashlaw16_PumpOne.j1 kq a1 ji20 t129 x58_21 a2_0 a2_1 a2_2 a2_3 = some r) ∧ Aside0 (kq ≤ kj3) ∧ Aside0 (Kd.R k34 34 wc w.heap.size (fun _ => True) v130 t129) ∧ Aside0 (wc.heap[gb123]? = some (.cells #[.int .i64 a2_0, .int .i64 a2_1, .int .i64 a2_2, .bool a2_3] 26 (0, 0))) ∧ Aside0 (Below w.heap.size w wc))
        case first =>
          have H := HC22.out
          clear HC22
          replace H := Option.bind_eq_some_iff.mp H
          obtain ⟨t132, A280, H⟩ := H
          replace H : (if t132 = (ji20) then (if a1 = 0 then (none) else (bywashlaw16_PumpOne.j1 kj3 a1 ji20 t129 ((t129.length : Int) != (wrap64 (Int.tdiv (wrap64 ((wrap64 ((ji20) + a1)) - 1)) a1))) a2_0 a2_1 a2_2 a2_3)) else (bywashlaw16_PumpOne.j1 kj3 a1 ji20 t129 true a2_0 a2_1 a2_2 a2_3)) = some r := H
          have A28 := Aside0.mk A280
          clear A280
          by_cases c29 : t132 = (ji20)
          · rw [if_pos c29] at H
            have c29b0 : (t132 == (ji20)) = true := beq_iff_eq.mpr c29
            have c29b1 : (t132 != (ji20)) = false := bne_eq_false_iff_eq.mpr c29
            clear c29
            (first | rw [c29b0] | (simp only [i64_w, i32_w]; rw [c29b0]) | skip)
            by_cases c30 : a1 = 0
            · rw [if_pos c30] at H
              exact absurd H (by simp)
            · rw [if_neg c30] at H
              have c30b0 : (a1 == 0) = false := beq_eq_false_iff_ne.mpr c30
              have c30b1 : (a1 != 0) = true := bne_iff_ne.mpr c30
              have H' := Aside0.mk H
              clear H
              obtain ⟨Ao31, co31, eo31⟩ := Kd.R_slice HO131.out
              subst eo31
              go_wp2_with (first | ((with_reducible refine gate_callee (f := 12) rfl ?_); refine goesL_ (some 45) rfl rfl Try.func12 (by kernel_rfl) rfl #[.slice Ao31 t129.length co31] rfl (by (try simp only [List.map_toArray, List.map_cons, List.map_nil]); first | done | rfl | (simp only [List.length_drop, List.length_take]; rfl)) ?_; (with_reducible refine (pump_Sum.calls kj3 _ _ t129 t132 _ ?side1 ?side2 A28.out).mono ?_); (case side1 => repeat (first | exact (Kd.R_reads' HO131.out).2.2 | (with_reducible refine Kd.C_alloc ?_ _) | (with_reducible refine Kd.C_drewN ?_ _) | (with_reducible refine Kd.C_drew ?_))); (case side2 => exact (Kd.R_reads' HO131.out).2.1); rintro e w32 ⟨rfl, hb⟩; refine ⟨_, rfl, ?_⟩; have n0_ := Aside0.mk (Kd.R_below (by (with_reducible repeat (first | apply Kd.R_alloc | apply Kd.R_drewN | apply Kd.R_drew)); exact HO128.out) hb); have n1_ := Aside0.mk (Kd.R_below (by (with_reducible repeat (first | apply Kd.R_alloc | apply Kd.R_drewN | apply Kd.R_drew)); exact HO131.out) hb); have n2_ := Aside0.mk (blk_below (g := gb123) (o := .cells #[.int .i64 a2_0, .int .i64 a2_1, .int .i64 a2_2, .bool a2_3] 26 (0, 0)) (by (with_reducible repeat (first | refine blk_drewN ?_ _ | refine blk_drew ?_ | refine blk_alloc ?_ _)); exact BK123.out) hb); have n3_ := Aside0.mk (below_step (by repeat (first | (with_reducible first | exact HB.out | apply below_alloc | apply pw_below_drewN | apply below_drew1 | refine below_set ?_ GE123.out) | exact HB.out)) hb); clear HO128; clear HO131; clear BK123; clear HB; have HO128 := n0_; have HO131 := n1_; have BK123 := n2_; have HB := n3_; clear n0_ n1_ n2_ n3_; (try clear hb); (try clear hb2); (try clear hk); (try clear hi)))
              go_meet
              case rel => exact ⟨_, (((t129.length : Int) != (wrap64 (Int.tdiv (wrap64 ((wrap64 ((ji20) + a1)) - 1)) a1)))), (by first | rfl | (simp; done) | (simp only [← hji20] <;> (first | rfl | simp)) | (simp [*]; done)), H', ⟨by have := HJ3.out; first | omega | exact Nat.le_refl _⟩, ⟨by (with_reducible repeat (first | apply Kd.R_alloc | apply Kd.R_drewN | apply Kd.R_drew)); exact HO131.out⟩, ⟨by (with_reducible repeat (first | refine blk_drewN ?_ _ | refine blk_drew ?_ | refine blk_alloc ?_ _)); exact BK123.out⟩, ⟨by repeat (first | (with_reducible first | exact HB.out | apply below_alloc | apply pw_below_drewN | apply below_drew1 | refine below_set ?_ GE123.out) | exact HB.out)⟩⟩
          · rw [if_neg c29] at H
            have c29b0 : (t132 == (ji20)) = false := beq_eq_false_iff_ne.mpr c29
            have c29b1 : (t132 != (ji20)) = true := bne_iff_ne.mpr c29
            (first | rw [c29b0] | (simp only [i64_w, i32_w]; rw [c29b0]) | skip)
            have H' := Aside0.mk H
            clear H
            obtain ⟨Ao33, co33, eo33⟩ := Kd.R_slice HO131.out
            subst eo33
            go_wp2_with (first | ((with_reducible refine gate_callee (f := 12) rfl ?_); refine goesL_ (some 45) rfl rfl Try.func12 (by kernel_rfl) rfl #[.slice Ao33 t129.length co33] rfl (by (try simp only [List.map_toArray, List.map_cons, List.map_nil]); first | done | rfl | (simp only [List.length_drop, List.length_take]; rfl)) ?_; (with_reducible refine (pump_Sum.calls kj3 _ _ t129 t132 _ ?side1 ?side2 A28.out).mono ?_); (case side1 => repeat (first | exact (Kd.R_reads' HO131.out).2.2 | (with_reducible refine Kd.C_alloc ?_ _) | (with_reducible refine Kd.C_drewN ?_ _) | (with_reducible refine Kd.C_drew ?_))); (case side2 => exact (Kd.R_reads' HO131.out).2.1); rintro e w34 ⟨rfl, hb⟩; refine ⟨_, rfl, ?_⟩; have n0_ := Aside0.mk (Kd.R_below (by (with_reducible repeat (first | apply Kd.R_alloc | apply Kd.R_drewN | apply Kd.R_drew)); exact HO128.out) hb); have n1_ := Aside0.mk (Kd.R_below (by (with_reducible repeat (first | apply Kd.R_alloc | apply Kd.R_drewN | apply Kd.R_drew)); exact HO131.out) hb); have n2_ := Aside0.mk (blk_below (g := gb123) (o := .cells #[.int .i64 a2_0, .int .i64 a2_1, .int .i64 a2_2, .bool a2_3] 26 (0, 0)) (by (with_reducible repeat (first | refine blk_drewN ?_ _ | refine blk_drew ?_ | refine blk_alloc ?_ _)); exact BK123.out) hb); have n3_ := Aside0.mk (below_step (by repeat (first | (with_reducible first | exact HB.out | apply below_alloc | apply pw_below_drewN | apply below_drew1 | refine below_set ?_ GE123.out) | exact HB.out)) hb); clear HO128; clear HO131; clear BK123; clear HB; have HO128 := n0_; have HO131 := n1_; have BK123 := n2_; have HB := n3_; clear n0_ n1_ n2_ n3_; (try clear hb); (try clear hb2); (try clear hk); (try clear hi)))
            go_meet
            case rel => exact ⟨_, (true), (by first | rfl | (simp; done) | (simp [*]; done)), H', ⟨by have := HJ3.out; first | omega | exact Nat.le_refl _⟩, ⟨by (with_reducible repeat (first | apply Kd.R_alloc | apply Kd.R_drewN | apply Kd.R_drew)); exact HO131.out⟩, ⟨by (with_reducible repeat (first | refine blk_drewN ?_ _ | refine blk_drew ?_ | refine blk_alloc ?_ _)); exact BK123.out⟩, ⟨by repeat (first | (with_reducible first | exact HB.out | apply below_alloc | apply pw_below_drewN | apply below_drew1 | refine below_set ?_ GE123.out) | exact HB.out)⟩⟩
        case rest =>
          clear HC22
          try clear c1
          try clear c2
          try clear p2
          try clear c3
          try clear c4
          try clear c5
          try clear c6
          try clear c6b0
          try clear p6
          try clear c7
          try clear c7b0
          try clear c8
          try clear c8b0
          try clear c9
          try clear c10
          try clear c10b0
          try clear c11
          try clear c12
          try clear c15
          try clear c29
          try clear c29b0
          try clear c29b1
          try clear c30
          try clear c30b0
          try clear c30b1
          try clear hcz11_0
          try clear hcz11_1
          try clear hcz11_2
          try clear hcz11_3
          try clear hcz13_0
          try clear hcz13_1
          try clear hcz13_2
          try clear hcz13_3
          try clear hcz23_0
          try clear hcz23_1
          try clear hcz23_2
          try clear hcz23_3
          try clear hcz9_0
          try clear hcz9_1
          try clear hcz9_2
          try clear hcz9_3
          try clear hfz11_0
          try clear hfz11_1
          try clear hfz11_2
          try clear hfz11_3
          try clear hfz13_0
          try clear hfz13_1
          try clear hfz13_2
          try clear hfz13_3
          try clear hfz23_0
          try clear hfz23_1
          try clear hfz23_2
          try clear hfz23_3
          try clear hfz9_0
          try clear hfz9_1
          try clear hfz9_2
          try clear hfz9_3
          try clear p2
          obtain ⟨kq, x58_21, rfl, HA, HJ21, HO_8, BK123, HB⟩ := hcut
          cases kq with
          | zero => exact absurd HA.out (by simp [bywashlaw16_PumpOne.j1])
          | succ kj21 =>
            have H := HA.out
            clear HA
            simp only [bywashlaw16_PumpOne.j1] at H
            by_cases c35 : x58_21 = true
            · subst c35
              have H1 : (some false) = some r := by rw [if_pos rfl] at H; exact H
              clear H
              have H := H1
              clear H1
              obtain rfl := Option.some.inj H
              go_wp2
              go_ret
              exact ⟨by first | rfl | (simp [errW_none, errW_some] <;> rfl) | (simp only [← hji18, ← hji19, ← hji20]; first | rfl | (simp [errW_none, errW_some] <;> rfl)) | (simp [*, errW_none, errW_some] <;> rfl), by repeat (first | (with_reducible first | exact HB.out | apply below_alloc | apply pw_below_drewN | apply below_drew1 | refine below_set ?_ GE123.out) | exact HB.out)⟩
            · replace c35 := Bool.eq_false_iff.mpr c35
              subst c35
              have H1 : (bywashlaw16_PumpOne.l0 kj21 a1 ji20 t129 t129 (t129.length : Int) 0 a2_0 a2_1 a2_2 a2_3) = some r := by rw [if_neg (show ¬ (false = true) by decide)] at H; exact H
              clear H
              have H := H1
              clear H1
              have H' := Aside0.mk H
              clear H
              obtain ⟨Ao36, co36, eo36⟩ := Kd.R_slice HO_8.out
              subst eo36
              go_wp2
              go_loopg [61] kj21 (fun kq v61 w' => ∃ (x61_3 : Int), v61 = .int .i64 x61_3 ∧ Aside0 (bywashlaw16_PumpOne.l0 kq a1 ji20 t129 t129 (t129.length : Int) x61_3 a2_0 a2_1 a2_2 a2_3 = some r) ∧ Aside0 (kq ≤ kj21) ∧ Aside0 (Kd.R k34 34 w' w.heap.size (fun _ => True) (.slice Ao36 t129.length co36) t129) ∧ Aside0 (Kd.R k34 34 w' w.heap.size (fun _ => True) (.slice Ao36 t129.length co36) t129) ∧ Aside0 (w'.heap[gb123]? = some (.cells #[.int .i64 a2_0, .int .i64 a2_1, .int .i64 a2_2, .bool a2_3] 26 (0, 0))) ∧ Aside0 (Below w.heap.size w w'))
              case atStart => exact ⟨(0), (by first | rfl | (simp; done) | (simp [*]; done)), H', ⟨Nat.le_refl _⟩, ⟨by (with_reducible repeat (first | apply Kd.R_alloc | apply Kd.R_drewN | apply Kd.R_drew)); exact HO_8.out⟩, ⟨by (with_reducible repeat (first | apply Kd.R_alloc | apply Kd.R_drewN | apply Kd.R_drew)); exact HO_8.out⟩, ⟨by (with_reducible repeat (first | refine blk_drewN ?_ _ | refine blk_drew ?_ | refine blk_alloc ?_ _)); exact BK123.out⟩, ⟨by repeat (first | (with_reducible first | exact HB.out | apply below_alloc | apply pw_below_drewN | apply below_drew1 | refine below_set ?_ GE123.out) | exact HB.out)⟩⟩
              case round =>
                clear H'
                try clear c1
                try clear c2
                try clear p2
                try clear c3
                try clear c4
                try clear c5
                try clear c6
                try clear c6b0
                try clear p6
                try clear c7
                try clear c7b0
                try clear c8
                try clear c8b0
                try clear c9
                try clear c10
                try clear c10b0
                try clear c11
                try clear c12
                try clear c15
                try clear c29
                try clear c29b0
                try clear c29b1
                try clear c30
                try clear c30b0
                try clear c30b1
                try clear c35
                try clear hcz11_0
                try clear hcz11_1
                try clear hcz11_2
                try clear hcz11_3
                try clear hcz13_0
                try clear hcz13_1
                try clear hcz13_2
                try clear hcz13_3
                try clear hcz23_0
                try clear hcz23_1
                try clear hcz23_2
                try clear hcz23_3
                try clear hcz9_0
                try clear hcz9_1
                try clear hcz9_2
                try clear hcz9_3
                try clear hfz11_0
                try clear hfz11_1
                try clear hfz11_2
                try clear hfz11_3
                try clear hfz13_0
                try clear hfz13_1
                try clear hfz13_2
                try clear hfz13_3
                try clear hfz23_0
                try clear hfz23_1
                try clear hfz23_2
                try clear hfz23_3
                try clear hfz9_0
                try clear hfz9_1
                try clear hfz9_2
                try clear hfz9_3
                try clear p2
                try clear p6
                obtain ⟨x61_3, rfl, HA, HK3, HO_8, HO_59, BK123, HB⟩ := hrel
                cases gk with
                | zero => exact absurd HA.out (by simp [bywashlaw16_PumpOne.l0])
                | succ k3 =>
                  have H := HA.out
                  clear HA
                  simp only [bywashlaw16_PumpOne.l0] at H
                  by_cases c37 : x61_3 < (t129.length : Int)
                  · rw [if_pos c37] at H
                    have c37b0 : decide (x61_3 < (t129.length : Int)) = true := decide_eq_true c37
                    clear c37
                    by_cases c38 : 0 ≤ x61_3
                    · rw [if_pos c38] at H
                      have c38b0 : decide (0 ≤ x61_3) = true := decide_eq_true c38
                      clear c38
                      by_cases c39 : x61_3 < (t129.length : Int)
                      · rw [if_pos c39] at H
                        have c39b0 : decide (x61_3 < (t129.length : Int)) = true := decide_eq_true c39
                        clear c39
                        by_cases c40 : ((rd_T34 t129 x61_3).f0) = a2_0
                        · rw [if_pos c40] at H
                          have c40b0 : (((rd_T34 t129 x61_3).f0) == a2_0) = true := beq_iff_eq.mpr c40
                          have c40b1 : (((rd_T34 t129 x61_3).f0) != a2_0) = false := bne_eq_false_iff_eq.mpr c40
                          clear c40
                          by_cases c41 : x61_3 < (wrap64 ((t129.length : Int) - 1))
                          · rw [if_pos c41] at H
                            have c41b0 : decide (x61_3 < (wrap64 ((t129.length : Int) - 1))) = true := decide_eq_true c41
                            clear c41
                            by_cases c42 : ((rd_T34 t129 x61_3).f1) = a1
                            · rw [if_pos c42] at H
                              have c42b0 : (((rd_T34 t129 x61_3).f1) == a1) = true := beq_iff_eq.mpr c42
                              have c42b1 : (((rd_T34 t129 x61_3).f1) != a1) = false := bne_eq_false_iff_eq.mpr c42
                              clear c42
                              obtain ⟨bq43, hbq43⟩ : ∃ b_ : Bool, b_ = ((rd_T34 t129 x61_3).f2) := ⟨_, rfl⟩
                              replace H : (if bq43 = true then (some false) else (if x61_3 = (wrap64 ((t129.length : Int) - 1)) then (if a2_3 = true then (if ((bq43) != (ji20 == a2_2)) = true then (some false) else (bywashlaw16_PumpOne.l0 k3 a1 ji20 t129 t129 (t129.length : Int) (wrap64 (x61_3 + 1)) a2_0 a2_1 a2_2 a2_3)) else (if ((bq43) != false) = true then (some false) else (bywashlaw16_PumpOne.l0 k3 a1 ji20 t129 t129 (t129.length : Int) (wrap64 (x61_3 + 1)) a2_0 a2_1 a2_2 a2_3))) else (bywashlaw16_PumpOne.l0 k3 a1 ji20 t129 t129 (t129.length : Int) (wrap64 (x61_3 + 1)) a2_0 a2_1 a2_2 a2_3))) = some r := by rw [← hbq43] at H; exact H
                              have Nbq43 := Aside0.mk hbq43
                              clear hbq43
                              by_cases c44 : bq43 = true
                              · subst c44
                                have H1 : (some false) = some r := by rw [if_pos rfl] at H; exact H
                                clear H
                                have H := H1
                                clear H1
                                obtain rfl := Option.some.inj H
                                have p133 : 0 ≤ (x61_3 : Int) := of_decide_eq_true (by first | (with_reducible assumption) | assumption)
                                have q133 : x61_3 < (t129.length : Int) := of_decide_eq_true (by first | (with_reducible assumption) | assumption)
                                obtain ⟨ad133, e133, hx133_0, hx133_1, hx133_2⟩ := at_T34 (Kd.R_reads' HO_59.out).2.2 x61_3 p133 q133
                                (try rw [← Nbq43.out] at hx133_2)
                                cases e133
                                replace p133 := eq_true p133
                                replace q133 := eq_true q133
                                go_wp2_with (first | ((with_reducible refine gate_dst (N := 10) rfl ?_); (try (refine gate_guard (by rfl) ?_; dsimp only)); refine box_event ?hg (N := 10) ?hd (cs := #[.int .i64 0, .int .i64 0, .bool false]) (t := 34) ?hr ?_; (case hd => rfl); (case hg => rfl); (case hr => first | (go_simp; done) | (go_simp; rfl)); intro gb134 hg w45 hbox hb; have n0_ := Aside0.mk (Kd.R_below (Kd.R_elderB (by (with_reducible repeat (first | apply Kd.R_alloc | apply Kd.R_drewN | apply Kd.R_drew)); exact HO_8.out) gb134 (Nat.le_of_eq hg.symm)) hb); have n1_ := Aside0.mk (Kd.R_below (Kd.R_elderB (by (with_reducible repeat (first | apply Kd.R_alloc | apply Kd.R_drewN | apply Kd.R_drew)); exact HO_59.out) gb134 (Nat.le_of_eq hg.symm)) hb); have n2_ := Aside0.mk (blk_below (g := gb123) (o := .cells #[.int .i64 a2_0, .int .i64 a2_1, .int .i64 a2_2, .bool a2_3] 26 (0, 0)) (by (with_reducible repeat (first | refine blk_drewN ?_ _ | refine blk_drew ?_ | refine blk_alloc ?_ _)); exact BK123.out) hb); have n3_ := Aside0.mk (below_step (by repeat (first | (with_reducible first | exact HB.out | apply below_alloc | apply pw_below_drewN | apply below_drew1 | refine below_set ?_ GE123.out) | exact HB.out)) hb); have n4_ := Aside0.mk (hbox); have n5_ := Aside0.mk ((by rw [hg]; exact (below_size (by repeat (first | (with_reducible first | exact HB.out | apply below_alloc | apply pw_below_drewN | apply below_drew1 | refine below_set ?_ GE123.out) | exact HB.out))) : w.heap.size ≤ gb134)); have n6_ := Aside0.mk ((by rw [hg]; exact (below_size (by repeat (first | (with_reducible first | exact HB.out | apply below_alloc | apply pw_below_drewN | apply below_drew1 | refine below_set ?_ GE123.out) | exact HB.out))) : w.heap.size ≤ gb134)); have n7_ := Aside0.mk ((by rw [hg]; exact Nat.ne_of_lt (blk_lt (g := gb123) (o := .cells #[.int .i64 a2_0, .int .i64 a2_1, .int .i64 a2_2, .bool a2_3] 26 (0, 0)) (by (with_reducible repeat (first | refine blk_drewN ?_ _ | refine blk_drew ?_ | refine blk_alloc ?_ _)); exact BK123.out)) : gb123 ≠ gb134)); have n8_ := Aside0.mk ((by rw [hg]; exact Nat.ne_of_gt (blk_lt (g := gb123) (o := .cells #[.int .i64 a2_0, .int .i64 a2_1, .int .i64 a2_2, .bool a2_3] 26 (0, 0)) (by (with_reducible repeat (first | refine blk_drewN ?_ _ | refine blk_drew ?_ | refine blk_alloc ?_ _)); exact BK123.out)) : gb134 ≠ gb123)); clear HO_8; clear HO_59; clear BK123; clear HB; have HO_8 := n0_; have HO_59 := n1_; have BK123 := n2_; have HB := n3_; have BK134 := n4_; have GW134 := n5_; have GE134 := n6_; have NB123_134 := n7_; have NB134_123 := n8_; clear n0_ n1_ n2_ n3_ n4_ n5_ n6_ n7_ n8_; clear hb hbox hg; have hnb46 := NB134_123.out; have hnc46 := NB123_134.out; have hcz47_0 : w45.cell? ⟨gb134, 0, none⟩ = some (.int .i64 0) := (blk_cell BK134.out 0).trans rfl; have hcz47_1 : w45.cell? ⟨gb134, 1, none⟩ = some (.int .i64 0) := (blk_cell BK134.out 1).trans rfl; have hcz47_2 : w45.cell? ⟨gb134, 2, none⟩ = some (.bool false) := (blk_cell BK134.out 2).trans rfl; have hfz47_0 := blk_frozen BK134.out 0; have hfz47_1 := blk_frozen BK134.out 1; have hfz47_2 := blk_frozen BK134.out 2; have hcz48_0 : w45.cell? ⟨gb123, 0, none⟩ = some (.int .i64 a2_0) := (blk_cell BK123.out 0).trans rfl; have hcz48_1 : w45.cell? ⟨gb123, 1, none⟩ = some (.int .i64 a2_1) := (blk_cell BK123.out 1).trans rfl; have hcz48_2 : w45.cell? ⟨gb123, 2, none⟩ = some (.int .i64 a2_2) := (blk_cell BK123.out 2).trans rfl; have hcz48_3 : w45.cell? ⟨gb123, 3, none⟩ = some (.bool a2_3) := (blk_cell BK123.out 3).trans rfl; have hfz48_0 := blk_frozen BK123.out 0; have hfz48_1 := blk_frozen BK123.out 1; have hfz48_2 := blk_frozen BK123.out 2; have hfz48_3 := blk_frozen BK123.out 3))
                                go_ret
                                exact ⟨by first | rfl | (simp [errW_none, errW_some] <;> rfl) | (simp only [← hji18, ← hji19, ← hji20]; first | rfl | (simp [errW_none, errW_some] <;> rfl)) | (simp [*, errW_none, errW_some] <;> rfl), by repeat (first | (with_reducible first | exact HB.out | apply below_alloc | apply pw_below_drewN | apply below_drew1 | refine below_set ?_ GE123.out | refine below_set ?_ GE134.out) | exact HB.out)⟩
                              · replace c44 := Bool.eq_false_iff.mpr c44
                                subst c44
                                have H1 : (if x61_3 = (wrap64 ((t129.length : Int) - 1)) then (if a2_3 = true then (if ((false) != (ji20 == a2_2)) = true then (some false) else (bywashlaw16_PumpOne.l0 k3 a1 ji20 t129 t129 (t129.length : Int) (wrap64 (x61_3 + 1)) a2_0 a2_1 a2_2 a2_3)) else (if ((false) != false) = true then (some false) else (bywashlaw16_PumpOne.l0 k3 a1 ji20 t129 t129 (t129.length : Int) (wrap64 (x61_3 + 1)) a2_0 a2_1 a2_2 a2_3))) else (bywashlaw16_PumpOne.l0 k3 a1 ji20 t129 t129 (t129.length : Int) (wrap64 (x61_3 + 1)) a2_0 a2_1 a2_2 a2_3)) = some r := by rw [if_neg (show ¬ (false = true) by decide)] at H; exact H
                                clear H
                                have H := H1
                                clear H1
                                by_cases c49 : x61_3 = (wrap64 ((t129.length : Int) - 1))
                                · rw [if_pos c49] at H
                                  have c49b0 : (x61_3 == (wrap64 ((t129.length : Int) - 1))) = true := beq_iff_eq.mpr c49
                                  have c49b1 : (x61_3 != (wrap64 ((t129.length : Int) - 1))) = false := bne_eq_false_iff_eq.mpr c49
                                  clear c49
                                  by_cases c50 : a2_3 = true
                                  · subst c50
                                    have H1 : (if ((false) != (ji20 == a2_2)) = true then (some false) else (bywashlaw16_PumpOne.l0 k3 a1 ji20 t129 t129 (t129.length : Int) (wrap64 (x61_3 + 1)) a2_0 a2_1 a2_2 true)) = some r := by rw [if_pos rfl] at H; exact H
                                    clear H
                                    have H := H1
                                    clear H1
                                    by_cases c51 : ((false) != (ji20 == a2_2)) = true
                                    · rw [if_pos c51] at H
                                      have c51b0 : ((false) != (ji20 == a2_2)) = true := c51
                                      (try (have c51b1 : decide ((false) = (ji20 == a2_2)) = false := by simpa using c51))
                                      (try (have c51b2 : ((false) == (ji20 == a2_2)) = false := by simpa using c51))
                                      (try (have c51b3 : ¬ ((false) = (ji20 == a2_2)) := by simpa using c51))
                                      clear c51
                                      obtain rfl := Option.some.inj H
                                      have p133 : 0 ≤ (x61_3 : Int) := of_decide_eq_true (by first | (with_reducible assumption) | assumption)
                                      have q133 : x61_3 < (t129.length : Int) := of_decide_eq_true (by first | (with_reducible assumption) | assumption)
                                      obtain ⟨ad133, e133, hx133_0, hx133_1, hx133_2⟩ := at_T34 (Kd.R_reads' HO_59.out).2.2 x61_3 p133 q133
                                      (try rw [← Nbq43.out] at hx133_2)
                                      cases e133
                                      replace p133 := eq_true p133
                                      replace q133 := eq_true q133
                                      go_wp2_with (first | ((with_reducible refine gate_dst (N := 10) rfl ?_); (try (refine gate_guard (by rfl) ?_; dsimp only)); refine box_event ?hg (N := 10) ?hd (cs := #[.int .i64 0, .int .i64 0, .bool false]) (t := 34) ?hr ?_; (case hd => rfl); (case hg => rfl); (case hr => first | (go_simp; done) | (go_simp; rfl)); intro gb134 hg w52 hbox hb; have n0_ := Aside0.mk (Kd.R_below (Kd.R_elderB (by (with_reducible repeat (first | apply Kd.R_alloc | apply Kd.R_drewN | apply Kd.R_drew)); exact HO_8.out) gb134 (Nat.le_of_eq hg.symm)) hb); have n1_ := Aside0.mk (Kd.R_below (Kd.R_elderB (by (with_reducible repeat (first | apply Kd.R_alloc | apply Kd.R_drewN | apply Kd.R_drew)); exact HO_59.out) gb134 (Nat.le_of_eq hg.symm)) hb); have n2_ := Aside0.mk (blk_below (g := gb123) (o := .cells #[.int .i64 a2_0, .int .i64 a2_1, .int .i64 a2_2, .bool true] 26 (0, 0)) (by (with_reducible repeat (first | refine blk_drewN ?_ _ | refine blk_drew ?_ | refine blk_alloc ?_ _)); exact BK123.out) hb); have n3_ := Aside0.mk (below_step (by repeat (first | (with_reducible first | exact HB.out | apply below_alloc | apply pw_below_drewN | apply below_drew1 | refine below_set ?_ GE123.out) | exact HB.out)) hb); have n4_ := Aside0.mk (hbox); have n5_ := Aside0.mk ((by rw [hg]; exact (below_size (by repeat (first | (with_reducible first | exact HB.out | apply below_alloc | apply pw_below_drewN | apply below_drew1 | refine below_set ?_ GE123.out) | exact HB.out))) : w.heap.size ≤ gb134)); have n6_ := Aside0.mk ((by rw [hg]; exact (below_size (by repeat (first | (with_reducible first | exact HB.out | apply below_alloc | apply pw_below_drewN | apply below_drew1 | refine below_set ?_ GE123.out) | exact HB.out))) : w.heap.size ≤ gb134)); have n7_ := Aside0.mk ((by rw [hg]; exact Nat.ne_of_lt (blk_lt (g := gb123) (o := .cells #[.int .i64 a2_0, .int .i64 a2_1, .int .i64 a2_2, .bool true] 26 (0, 0)) (by (with_reducible repeat (first | refine blk_drewN ?_ _ | refine blk_drew ?_ | refine blk_alloc ?_ _)); exact BK123.out)) : gb123 ≠ gb134)); have n8_ := Aside0.mk ((by rw [hg]; exact Nat.ne_of_gt (blk_lt (g := gb123) (o := .cells #[.int .i64 a2_0, .int .i64 a2_1, .int .i64 a2_2, .bool true] 26 (0, 0)) (by (with_reducible repeat (first | refine blk_drewN ?_ _ | refine blk_drew ?_ | refine blk_alloc ?_ _)); exact BK123.out)) : gb134 ≠ gb123)); clear HO_8; clear HO_59; clear BK123; clear HB; have HO_8 := n0_; have HO_59 := n1_; have BK123 := n2_; have HB := n3_; have BK134 := n4_; have GW134 := n5_; have GE134 := n6_; have NB123_134 := n7_; have NB134_123 := n8_; clear n0_ n1_ n2_ n3_ n4_ n5_ n6_ n7_ n8_; clear hb hbox hg; have hnb53 := NB134_123.out; have hnc53 := NB123_134.out; have hcz54_0 : w52.cell? ⟨gb134, 0, none⟩ = some (.int .i64 0) := (blk_cell BK134.out 0).trans rfl; have hcz54_1 : w52.cell? ⟨gb134, 1, none⟩ = some (.int .i64 0) := (blk_cell BK134.out 1).trans rfl; have hcz54_2 : w52.cell? ⟨gb134, 2, none⟩ = some (.bool false) := (blk_cell BK134.out 2).trans rfl; have hfz54_0 := blk_frozen BK134.out 0; have hfz54_1 := blk_frozen BK134.out 1; have hfz54_2 := blk_frozen BK134.out 2; have hcz55_0 : w52.cell? ⟨gb123, 0, none⟩ = some (.int .i64 a2_0) := (blk_cell BK123.out 0).trans rfl; have hcz55_1 : w52.cell? ⟨gb123, 1, none⟩ = some (.int .i64 a2_1) := (blk_cell BK123.out 1).trans rfl; have hcz55_2 : w52.cell? ⟨gb123, 2, none⟩ = some (.int .i64 a2_2) := (blk_cell BK123.out 2).trans rfl; have hcz55_3 : w52.cell? ⟨gb123, 3, none⟩ = some (.bool true) := (blk_cell BK123.out 3).trans rfl; have hfz55_0 := blk_frozen BK123.out 0; have hfz55_1 := blk_frozen BK123.out 1; have hfz55_2 := blk_frozen BK123.out 2; have hfz55_3 := blk_frozen BK123.out 3))
                                      go_ret
                                      exact ⟨by first | rfl | (simp [errW_none, errW_some] <;> rfl) | (simp only [← hji18, ← hji19, ← hji20]; first | rfl | (simp [errW_none, errW_some] <;> rfl)) | (simp [*, errW_none, errW_some] <;> rfl), by repeat (first | (with_reducible first | exact HB.out | apply below_alloc | apply pw_below_drewN | apply below_drew1 | refine below_set ?_ GE123.out | refine below_set ?_ GE134.out) | exact HB.out)⟩
                                    · rw [if_neg c51] at H
                                      have c51b0 : ((false) != (ji20 == a2_2)) = false := by simpa using c51
                                      (try (have c51b1 : decide ((false) = (ji20 == a2_2)) = true := by simpa using c51))
                                      (try (have c51b2 : ((false) == (ji20 == a2_2)) = true := by simpa using c51))
                                      clear c51
                                      have H' := Aside0.mk H
                                      clear H
                                      have p133 : 0 ≤ (x61_3 : Int) := of_decide_eq_true (by first | (with_reducible assumption) | assumption)
                                      have q133 : x61_3 < (t129.length : Int) := of_decide_eq_true (by first | (with_reducible assumption) | assumption)
                                      obtain ⟨ad133, e133, hx133_0, hx133_1, hx133_2⟩ := at_T34 (Kd.R_reads' HO_59.out).2.2 x61_3 p133 q133
                                      (try rw [← Nbq43.out] at hx133_2)
                                      cases e133
                                      replace p133 := eq_true p133
                                      replace q133 := eq_true q133
                                      go_wp2_with (first | ((with_reducible refine gate_dst (N := 10) rfl ?_); (try (refine gate_guard (by rfl) ?_; dsimp only)); refine box_event ?hg (N := 10) ?hd (cs := #[.int .i64 0, .int .i64 0, .bool false]) (t := 34) ?hr ?_; (case hd => rfl); (case hg => rfl); (case hr => first | (go_simp; done) | (go_simp; rfl)); intro gb134 hg w56 hbox hb; have n0_ := Aside0.mk (Kd.R_below (Kd.R_elderB (by (with_reducible repeat (first | apply Kd.R_alloc | apply Kd.R_drewN | apply Kd.R_drew)); exact HO_8.out) gb134 (Nat.le_of_eq hg.symm)) hb); have n1_ := Aside0.mk (Kd.R_below (Kd.R_elderB (by (with_reducible repeat (first | apply Kd.R_alloc | apply Kd.R_drewN | apply Kd.R_drew)); exact HO_59.out) gb134 (Nat.le_of_eq hg.symm)) hb); have n2_ := Aside0.mk (blk_below (g := gb123) (o := .cells #[.int .i64 a2_0, .int .i64 a2_1, .int .i64 a2_2, .bool true] 26 (0, 0)) (by (with_reducible repeat (first | refine blk_drewN ?_ _ | refine blk_drew ?_ | refine blk_alloc ?_ _)); exact BK123.out) hb); have n3_ := Aside0.mk (below_step (by repeat (first | (with_reducible first | exact HB.out | apply below_alloc | apply pw_below_drewN | apply below_drew1 | refine below_set ?_ GE123.out) | exact HB.out)) hb); have n4_ := Aside0.mk (hbox); have n5_ := Aside0.mk ((by rw [hg]; exact (below_size (by repeat (first | (with_reducible first | exact HB.out | apply below_alloc | apply pw_below_drewN | apply below_drew1 | refine below_set ?_ GE123.out) | exact HB.out))) : w.heap.size ≤ gb134)); have n6_ := Aside0.mk ((by rw [hg]; exact (below_size (by repeat (first | (with_reducible first | exact HB.out | apply below_alloc | apply pw_below_drewN | apply below_drew1 | refine below_set ?_ GE123.out) | exact HB.out))) : w.heap.size ≤ gb134)); have n7_ := Aside0.mk ((by rw [hg]; exact Nat.ne_of_lt (blk_lt (g := gb123) (o := .cells #[.int .i64 a2_0, .int .i64 a2_1, .int .i64 a2_2, .bool true] 26 (0, 0)) (by (with_reducible repeat (first | refine blk_drewN ?_ _ | refine blk_drew ?_ | refine blk_alloc ?_ _)); exact BK123.out)) : gb123 ≠ gb134)); have n8_ := Aside0.mk ((by rw [hg]; exact Nat.ne_of_gt (blk_lt (g := gb123) (o := .cells #[.int .i64 a2_0, .int .i64 a2_1, .int .i64 a2_2, .bool true] 26 (0, 0)) (by (with_reducible repeat (first | refine blk_drewN ?_ _ | refine blk_drew ?_ | refine blk_alloc ?_ _)); exact BK123.out)) : gb134 ≠ gb123)); clear HO_8; clear HO_59; clear BK123; clear HB; have HO_8 := n0_; have HO_59 := n1_; have BK123 := n2_; have HB := n3_; have BK134 := n4_; have GW134 := n5_; have GE134 := n6_; have NB123_134 := n7_; have NB134_123 := n8_; clear n0_ n1_ n2_ n3_ n4_ n5_ n6_ n7_ n8_; clear hb hbox hg; have hnb57 := NB134_123.out; have hnc57 := NB123_134.out; have hcz58_0 : w56.cell? ⟨gb134, 0, none⟩ = some (.int .i64 0) := (blk_cell BK134.out 0).trans rfl; have hcz58_1 : w56.cell? ⟨gb134, 1, none⟩ = some (.int .i64 0) := (blk_cell BK134.out 1).trans rfl; have hcz58_2 : w56.cell? ⟨gb134, 2, none⟩ = some (.bool false) := (blk_cell BK134.out 2).trans rfl; have hfz58_0 := blk_frozen BK134.out 0; have hfz58_1 := blk_frozen BK134.out 1; have hfz58_2 := blk_frozen BK134.out 2; have hcz59_0 : w56.cell? ⟨gb123, 0, none⟩ = some (.int .i64 a2_0) := (blk_cell BK123.out 0).trans rfl; have hcz59_1 : w56.cell? ⟨gb123, 1, none⟩ = some (.int .i64 a2_1) := (blk_cell BK123.out 1).trans rfl; have hcz59_2 : w56.cell? ⟨gb123, 2, none⟩ = some (.int .i64 a2_2) := (blk_cell BK123.out 2).trans rfl; have hcz59_3 : w56.cell? ⟨gb123, 3, none⟩ = some (.bool true) := (blk_cell BK123.out 3).trans rfl; have hfz59_0 := blk_frozen BK123.out 0; have hfz59_1 := blk_frozen BK123.out 1; have hfz59_2 := blk_frozen BK123.out 2; have hfz59_3 := blk_frozen BK123.out 3))
                                      go_roundg k3
                                      case measure => have := HJ3.out; have := HJ21.out; have := HK3.out; omega
                                      case rel => exact ⟨(wrap64 (x61_3 + 1)), (by first | rfl | (simp; done) | (simp [*]; done)), H', ⟨by have := HJ3.out; have := HJ21.out; have := HK3.out; omega⟩, ⟨by (with_reducible repeat (first | apply Kd.R_alloc | apply Kd.R_drewN | apply Kd.R_drew)); exact Kd.R_mono (Kd.R_far (p := ⟨gb134, 2, none⟩) (Kd.R_far (p := ⟨gb134, 1, none⟩) (Kd.R_far (p := ⟨gb134, 0, none⟩) (Kd.R_mono HO_8.out (fun k_ hk => (⟨hk, hk.2⟩ : _ ∧ k_ ≠ gb134))) (fun _ hk => hk.2) (.int .i64 ((rd_T34 t129 x61_3).f0))) (fun _ hk => hk.2) (.int .i64 ((rd_T34 t129 x61_3).f1))) (fun _ hk => hk.2) (.bool false)) (fun _ hk => trivial)⟩, ⟨by (with_reducible repeat (first | apply Kd.R_alloc | apply Kd.R_drewN | apply Kd.R_drew)); exact Kd.R_mono (Kd.R_far (p := ⟨gb134, 2, none⟩) (Kd.R_far (p := ⟨gb134, 1, none⟩) (Kd.R_far (p := ⟨gb134, 0, none⟩) (Kd.R_mono HO_59.out (fun k_ hk => (⟨hk, hk.2⟩ : _ ∧ k_ ≠ gb134))) (fun _ hk => hk.2) (.int .i64 ((rd_T34 t129 x61_3).f0))) (fun _ hk => hk.2) (.int .i64 ((rd_T34 t129 x61_3).f1))) (fun _ hk => hk.2) (.bool false)) (fun _ hk => trivial)⟩, ⟨by (with_reducible repeat (first | refine blk_drewN ?_ _ | refine blk_drew ?_ | refine blk_alloc ?_ _)); refine blk_far ?_ NB123_134.out _; (with_reducible repeat (first | refine blk_drewN ?_ _ | refine blk_drew ?_ | refine blk_alloc ?_ _)); refine blk_far ?_ NB123_134.out _; (with_reducible repeat (first | refine blk_drewN ?_ _ | refine blk_drew ?_ | refine blk_alloc ?_ _)); refine blk_far ?_ NB123_134.out _; (with_reducible repeat (first | refine blk_drewN ?_ _ | refine blk_drew ?_ | refine blk_alloc ?_ _)); exact BK123.out⟩, ⟨by repeat (first | (with_reducible first | exact HB.out | apply below_alloc | apply pw_below_drewN | apply below_drew1 | refine below_set ?_ GE123.out | refine below_set ?_ GE134.out) | exact HB.out)⟩⟩
                                  · replace c50 := Bool.eq_false_iff.mpr c50
                                    subst c50
                                    have H1 : (if ((false) != false) = true then (some false) else (bywashlaw16_PumpOne.l0 k3 a1 ji20 t129 t129 (t129.length : Int) (wrap64 (x61_3 + 1)) a2_0 a2_1 a2_2 false)) = some r := by rw [if_neg (show ¬ (false = true) by decide)] at H; exact H
                                    clear H
                                    have H := H1
                                    clear H1
                                    by_cases c60 : ((false) != false) = true
                                    · exact absurd c60 (by decide)
                                    · rw [if_neg c60] at H
                                      have c60b0 : ((false) != false) = false := by decide
                                      (try (have c60b1 : decide ((false) = false) = true := by decide))
                                      (try (have c60b2 : ((false) == false) = true := by decide))
                                      clear c60
                                      have H' := Aside0.mk H
                                      clear H
                                      have p133 : 0 ≤ (x61_3 : Int) := of_decide_eq_true (by first | (with_reducible assumption) | assumption)
                                      have q133 : x61_3 < (t129.length : Int) := of_decide_eq_true (by first | (with_reducible assumption) | assumption)
                                      obtain ⟨ad133, e133, hx133_0, hx133_1, hx133_2⟩ := at_T34 (Kd.R_reads' HO_59.out).2.2 x61_3 p133 q133
                                      (try rw [← Nbq43.out] at hx133_2)
                                      cases e133
                                      replace p133 := eq_true p133
                                      replace q133 := eq_true q133
                                      go_wp2_with (first | ((with_reducible refine gate_dst (N := 10) rfl ?_); (try (refine gate_guard (by rfl) ?_; dsimp only)); refine box_event ?hg (N := 10) ?hd (cs := #[.int .i64 0, .int .i64 0, .bool false]) (t := 34) ?hr ?_; (case hd => rfl); (case hg => rfl); (case hr => first | (go_simp; done) | (go_simp; rfl)); intro gb134 hg w65 hbox hb; have n0_ := Aside0.mk (Kd.R_below (Kd.R_elderB (by (with_reducible repeat (first | apply Kd.R_alloc | apply Kd.R_drewN | apply Kd.R_drew)); exact HO_8.out) gb134 (Nat.le_of_eq hg.symm)) hb); have n1_ := Aside0.mk (Kd.R_below (Kd.R_elderB (by (with_reducible repeat (first | apply Kd.R_alloc | apply Kd.R_drewN | apply Kd.R_drew)); exact HO_59.out) gb134 (Nat.le_of_eq hg.symm)) hb); have n2_ := Aside0.mk (blk_below (g := gb123) (o := .cells #[.int .i64 a2_0, .int .i64 a2_1, .int .i64 a2_2, .bool false] 26 (0, 0)) (by (with_reducible repeat (first | refine blk_drewN ?_ _ | refine blk_drew ?_ | refine blk_alloc ?_ _)); exact BK123.out) hb); have n3_ := Aside0.mk (below_step (by repeat (first | (with_reducible first | exact HB.out | apply below_alloc | apply pw_below_drewN | apply below_drew1 | refine below_set ?_ GE123.out) | exact HB.out)) hb); have n4_ := Aside0.mk (hbox); have n5_ := Aside0.mk ((by rw [hg]; exact (below_size (by repeat (first | (with_reducible first | exact HB.out | apply below_alloc | apply pw_below_drewN | apply below_drew1 | refine below_set ?_ GE123.out) | exact HB.out))) : w.heap.size ≤ gb134)); have n6_ := Aside0.mk ((by rw [hg]; exact (below_size (by repeat (first | (with_reducible first | exact HB.out | apply below_alloc | apply pw_below_drewN | apply below_drew1 | refine below_set ?_ GE123.out) | exact HB.out))) : w.heap.size ≤ gb134)); have n7_ := Aside0.mk ((by rw [hg]; exact Nat.ne_of_lt (blk_lt (g := gb123) (o := .cells #[.int .i64 a2_0, .int .i64 a2_1, .int .i64 a2_2, .bool false] 26 (0, 0)) (by (with_reducible repeat (first | refine blk_drewN ?_ _ | refine blk_drew ?_ | refine blk_alloc ?_ _)); exact BK123.out)) : gb123 ≠ gb134)); have n8_ := Aside0.mk ((by rw [hg]; exact Nat.ne_of_gt (blk_lt (g := gb123) (o := .cells #[.int .i64 a2_0, .int .i64 a2_1, .int .i64 a2_2, .bool false] 26 (0, 0)) (by (with_reducible repeat (first | refine blk_drewN ?_ _ | refine blk_drew ?_ | refine blk_alloc ?_ _)); exact BK123.out)) : gb134 ≠ gb123)); clear HO_8; clear HO_59; clear BK123; clear HB; have HO_8 := n0_; have HO_59 := n1_; have BK123 := n2_; have HB := n3_; have BK134 := n4_; have GW134 := n5_; have GE134 := n6_; have NB123_134 := n7_; have NB134_123 := n8_; clear n0_ n1_ n2_ n3_ n4_ n5_ n6_ n7_ n8_; clear hb hbox hg; have hnb66 := NB134_123.out; have hnc66 := NB123_134.out; have hcz67_0 : w65.cell? ⟨gb134, 0, none⟩ = some (.int .i64 0) := (blk_cell BK134.out 0).trans rfl; have hcz67_1 : w65.cell? ⟨gb134, 1, none⟩ = some (.int .i64 0) := (blk_cell BK134.out 1).trans rfl; have hcz67_2 : w65.cell? ⟨gb134, 2, none⟩ = some (.bool false) := (blk_cell BK134.out 2).trans rfl; have hfz67_0 := blk_frozen BK134.out 0; have hfz67_1 := blk_frozen BK134.out 1; have hfz67_2 := blk_frozen BK134.out 2; have hcz68_0 : w65.cell? ⟨gb123, 0, none⟩ = some (.int .i64 a2_0) := (blk_cell BK123.out 0).trans rfl; have hcz68_1 : w65.cell? ⟨gb123, 1, none⟩ = some (.int .i64 a2_1) := (blk_cell BK123.out 1).trans rfl; have hcz68_2 : w65.cell? ⟨gb123, 2, none⟩ = some (.int .i64 a2_2) := (blk_cell BK123.out 2).trans rfl; have hcz68_3 : w65.cell? ⟨gb123, 3, none⟩ = some (.bool false) := (blk_cell BK123.out 3).trans rfl; have hfz68_0 := blk_frozen BK123.out 0; have hfz68_1 := blk_frozen BK123.out 1; have hfz68_2 := blk_frozen BK123.out 2; have hfz68_3 := blk_frozen BK123.out 3))
                                      go_roundg k3
                                      case measure => have := HJ3.out; have := HJ21.out; have := HK3.out; omega
                                      case rel => exact ⟨(wrap64 (x61_3 + 1)), (by first | rfl | (simp; done) | (simp [*]; done)), H', ⟨by have := HJ3.out; have := HJ21.out; have := HK3.out; omega⟩, ⟨by (with_reducible repeat (first | apply Kd.R_alloc | apply Kd.R_drewN | apply Kd.R_drew)); exact Kd.R_mono (Kd.R_far (p := ⟨gb134, 2, none⟩) (Kd.R_far (p := ⟨gb134, 1, none⟩) (Kd.R_far (p := ⟨gb134, 0, none⟩) (Kd.R_mono HO_8.out (fun k_ hk => (⟨hk, hk.2⟩ : _ ∧ k_ ≠ gb134))) (fun _ hk => hk.2) (.int .i64 ((rd_T34 t129 x61_3).f0))) (fun _ hk => hk.2) (.int .i64 ((rd_T34 t129 x61_3).f1))) (fun _ hk => hk.2) (.bool false)) (fun _ hk => trivial)⟩, ⟨by (with_reducible repeat (first | apply Kd.R_alloc | apply Kd.R_drewN | apply Kd.R_drew)); exact Kd.R_mono (Kd.R_far (p := ⟨gb134, 2, none⟩) (Kd.R_far (p := ⟨gb134, 1, none⟩) (Kd.R_far (p := ⟨gb134, 0, none⟩) (Kd.R_mono HO_59.out (fun k_ hk => (⟨hk, hk.2⟩ : _ ∧ k_ ≠ gb134))) (fun _ hk => hk.2) (.int .i64 ((rd_T34 t129 x61_3).f0))) (fun _ hk => hk.2) (.int .i64 ((rd_T34 t129 x61_3).f1))) (fun _ hk => hk.2) (.bool false)) (fun _ hk => trivial)⟩, ⟨by (with_reducible repeat (first | refine blk_drewN ?_ _ | refine blk_drew ?_ | refine blk_alloc ?_ _)); refine blk_far ?_ NB123_134.out _; (with_reducible repeat (first | refine blk_drewN ?_ _ | refine blk_drew ?_ | refine blk_alloc ?_ _)); refine blk_far ?_ NB123_134.out _; (with_reducible repeat (first | refine blk_drewN ?_ _ | refine blk_drew ?_ | refine blk_alloc ?_ _)); refine blk_far ?_ NB123_134.out _; (with_reducible repeat (first | refine blk_drewN ?_ _ | refine blk_drew ?_ | refine blk_alloc ?_ _)); exact BK123.out⟩, ⟨by repeat (first | (with_reducible first | exact HB.out | apply below_alloc | apply pw_below_drewN | apply below_drew1 | refine below_set ?_ GE123.out | refine below_set ?_ GE134.out) | exact HB.out)⟩⟩
                                · rw [if_neg c49] at H
                                  have c49b0 : (x61_3 == (wrap64 ((t129.length : Int) - 1))) = false := beq_eq_false_iff_ne.mpr c49
                                  have c49b1 : (x61_3 != (wrap64 ((t129.length : Int) - 1))) = true := bne_iff_ne.mpr c49
                                  have H' := Aside0.mk H
                                  clear H
                                  have p133 : 0 ≤ (x61_3 : Int) := of_decide_eq_true (by first | (with_reducible assumption) | assumption)
                                  have q133 : x61_3 < (t129.length : Int) := of_decide_eq_true (by first | (with_reducible assumption) | assumption)
                                  obtain ⟨ad133, e133, hx133_0, hx133_1, hx133_2⟩ := at_T34 (Kd.R_reads' HO_59.out).2.2 x61_3 p133 q133
                                  (try rw [← Nbq43.out] at hx133_2)
                                  cases e133
                                  replace p133 := eq_true p133
                                  replace q133 := eq_true q133
                                  go_wp2_with (first | ((with_reducible refine gate_dst (N := 10) rfl ?_); (try (refine gate_guard (by rfl) ?_; dsimp only)); refine box_event ?hg (N := 10) ?hd (cs := #[.int .i64 0, .int .i64 0, .bool false]) (t := 34) ?hr ?_; (case hd => rfl); (case hg => rfl); (case hr => first | (go_simp; done) | (go_simp; rfl)); intro gb134 hg w69 hbox hb; have n0_ := Aside0.mk (Kd.R_below (Kd.R_elderB (by (with_reducible repeat (first | apply Kd.R_alloc | apply Kd.R_drewN | apply Kd.R_drew)); exact HO_8.out) gb134 (Nat.le_of_eq hg.symm)) hb); have n1_ := Aside0.mk (Kd.R_below (Kd.R_elderB (by (with_reducible repeat (first | apply Kd.R_alloc | apply Kd.R_drewN | apply Kd.R_drew)); exact HO_59.out) gb134 (Nat.le_of_eq hg.symm)) hb); have n2_ := Aside0.mk (blk_below (g := gb123) (o := .cells #[.int .i64 a2_0, .int .i64 a2_1, .int .i64 a2_2, .bool a2_3] 26 (0, 0)) (by (with_reducible repeat (first | refine blk_drewN ?_ _ | refine blk_drew ?_ | refine blk_alloc ?_ _)); exact BK123.out) hb); have n3_ := Aside0.mk (below_step (by repeat (first | (with_reducible first | exact HB.out | apply below_alloc | apply pw_below_drewN | apply below_drew1 | refine below_set ?_ GE123.out) | exact HB.out)) hb); have n4_ := Aside0.mk (hbox); have n5_ := Aside0.mk ((by rw [hg]; exact (below_size (by repeat (first | (with_reducible first | exact HB.out | apply below_alloc | apply pw_below_drewN | apply below_drew1 | refine below_set ?_ GE123.out) | exact HB.out))) : w.heap.size ≤ gb134)); have n6_ := Aside0.mk ((by rw [hg]; exact (below_size (by repeat (first | (with_reducible first | exact HB.out | apply below_alloc | apply pw_below_drewN | apply below_drew1 | refine below_set ?_ GE123.out) | exact HB.out))) : w.heap.size ≤ gb134)); have n7_ := Aside0.mk ((by rw [hg]; exact Nat.ne_of_lt (blk_lt (g := gb123) (o := .cells #[.int .i64 a2_0, .int .i64 a2_1, .int .i64 a2_2, .bool a2_3] 26 (0, 0)) (by (with_reducible repeat (first | refine blk_drewN ?_ _ | refine blk_drew ?_ | refine blk_alloc ?_ _)); exact BK123.out)) : gb123 ≠ gb134)); have n8_ := Aside0.mk ((by rw [hg]; exact Nat.ne_of_gt (blk_lt (g := gb123) (o := .cells #[.int .i64 a2_0, .int .i64 a2_1, .int .i64 a2_2, .bool a2_3] 26 (0, 0)) (by (with_reducible repeat (first | refine blk_drewN ?_ _ | refine blk_drew ?_ | refine blk_alloc ?_ _)); exact BK123.out)) : gb134 ≠ gb123)); clear HO_8; clear HO_59; clear BK123; clear HB; have HO_8 := n0_; have HO_59 := n1_; have BK123 := n2_; have HB := n3_; have BK134 := n4_; have GW134 := n5_; have GE134 := n6_; have NB123_134 := n7_; have NB134_123 := n8_; clear n0_ n1_ n2_ n3_ n4_ n5_ n6_ n7_ n8_; clear hb hbox hg; have hnb70 := NB134_123.out; have hnc70 := NB123_134.out; have hcz71_0 : w69.cell? ⟨gb134, 0, none⟩ = some (.int .i64 0) := (blk_cell BK134.out 0).trans rfl; have hcz71_1 : w69.cell? ⟨gb134, 1, none⟩ = some (.int .i64 0) := (blk_cell BK134.out 1).trans rfl; have hcz71_2 : w69.cell? ⟨gb134, 2, none⟩ = some (.bool false) := (blk_cell BK134.out 2).trans rfl; have hfz71_0 := blk_frozen BK134.out 0; have hfz71_1 := blk_frozen BK134.out 1; have hfz71_2 := blk_frozen BK134.out 2; have hcz72_0 : w69.cell? ⟨gb123, 0, none⟩ = some (.int .i64 a2_0) := (blk_cell BK123.out 0).trans rfl; have hcz72_1 : w69.cell? ⟨gb123, 1, none⟩ = some (.int .i64 a2_1) := (blk_cell BK123.out 1).trans rfl; have hcz72_2 : w69.cell? ⟨gb123, 2, none⟩ = some (.int .i64 a2_2) := (blk_cell BK123.out 2).trans rfl; have hcz72_3 : w69.cell? ⟨gb123, 3, none⟩ = some (.bool a2_3) := (blk_cell BK123.out 3).trans rfl; have hfz72_0 := blk_frozen BK123.out 0; have hfz72_1 := blk_frozen BK123.out 1; have hfz72_2 := blk_frozen BK123.out 2; have hfz72_3 := blk_frozen BK123.out 3))
                                  go_roundg k3
                                  case measure => have := HJ3.out; have := HJ21.out; have := HK3.out; omega
                                  case rel => exact ⟨(wrap64 (x61_3 + 1)), (by first | rfl | (simp; done) | (simp [*]; done)), H', ⟨by have := HJ3.out; have := HJ21.out; have := HK3.out; omega⟩, ⟨by (with_reducible repeat (first | apply Kd.R_alloc | apply Kd.R_drewN | apply Kd.R_drew)); exact Kd.R_mono (Kd.R_far (p := ⟨gb134, 2, none⟩) (Kd.R_far (p := ⟨gb134, 1, none⟩) (Kd.R_far (p := ⟨gb134, 0, none⟩) (Kd.R_mono HO_8.out (fun k_ hk => (⟨hk, hk.2⟩ : _ ∧ k_ ≠ gb134))) (fun _ hk => hk.2) (.int .i64 ((rd_T34 t129 x61_3).f0))) (fun _ hk => hk.2) (.int .i64 ((rd_T34 t129 x61_3).f1))) (fun _ hk => hk.2) (.bool false)) (fun _ hk => trivial)⟩, ⟨by (with_reducible repeat (first | apply Kd.R_alloc | apply Kd.R_drewN | apply Kd.R_drew)); exact Kd.R_mono (Kd.R_far (p := ⟨gb134, 2, none⟩) (Kd.R_far (p := ⟨gb134, 1, none⟩) (Kd.R_far (p := ⟨gb134, 0, none⟩) (Kd.R_mono HO_59.out (fun k_ hk => (⟨hk, hk.2⟩ : _ ∧ k_ ≠ gb134))) (fun _ hk => hk.2) (.int .i64 ((rd_T34 t129 x61_3).f0))) (fun _ hk => hk.2) (.int .i64 ((rd_T34 t129 x61_3).f1))) (fun _ hk => hk.2) (.bool false)) (fun _ hk => trivial)⟩, ⟨by (with_reducible repeat (first | refine blk_drewN ?_ _ | refine blk_drew ?_ | refine blk_alloc ?_ _)); refine blk_far ?_ NB123_134.out _; (with_reducible repeat (first | refine blk_drewN ?_ _ | refine blk_drew ?_ | refine blk_alloc ?_ _)); refine blk_far ?_ NB123_134.out _; (with_reducible repeat (first | refine blk_drewN ?_ _ | refine blk_drew ?_ | refine blk_alloc ?_ _)); refine blk_far ?_ NB123_134.out _; (with_reducible repeat (first | refine blk_drewN ?_ _ | refine blk_drew ?_ | refine blk_alloc ?_ _)); exact BK123.out⟩, ⟨by repeat (first | (with_reducible first | exact HB.out | apply below_alloc | apply pw_below_drewN | apply below_drew1 | refine below_set ?_ GE123.out | refine below_set ?_ GE134.out) | exact HB.out)⟩⟩
                            · rw [if_neg c42] at H
                              have c42b0 : (((rd_T34 t129 x61_3).f1) == a1) = false := beq_eq_false_iff_ne.mpr c42
                              have c42b1 : (((rd_T34 t129 x61_3).f1) != a1) = true := bne_iff_ne.mpr c42
                              obtain rfl := Option.some.inj H
                              have p133 : 0 ≤ (x61_3 : Int) := of_decide_eq_true (by first | (with_reducible assumption) | assumption)
                              have q133 : x61_3 < (t129.length : Int) := of_decide_eq_true (by first | (with_reducible assumption) | assumption)
                              obtain ⟨ad133, e133, hx133_0, hx133_1, hx133_2⟩ := at_T34 (Kd.R_reads' HO_59.out).2.2 x61_3 p133 q133
                              cases e133
                              replace p133 := eq_true p133
                              replace q133 := eq_true q133
                              go_wp2_with (first | ((with_reducible refine gate_dst (N := 10) rfl ?_); (try (refine gate_guard (by rfl) ?_; dsimp only)); refine box_event ?hg (N := 10) ?hd (cs := #[.int .i64 0, .int .i64 0, .bool false]) (t := 34) ?hr ?_; (case hd => rfl); (case hg => rfl); (case hr => first | (go_simp; done) | (go_simp; rfl)); intro gb134 hg w73 hbox hb; have n0_ := Aside0.mk (Kd.R_below (Kd.R_elderB (by (with_reducible repeat (first | apply Kd.R_alloc | apply Kd.R_drewN | apply Kd.R_drew)); exact HO_8.out) gb134 (Nat.le_of_eq hg.symm)) hb); have n1_ := Aside0.mk (Kd.R_below (Kd.R_elderB (by (with_reducible repeat (first | apply Kd.R_alloc | apply Kd.R_drewN | apply Kd.R_drew)); exact HO_59.out) gb134 (Nat.le_of_eq hg.symm)) hb); have n2_ := Aside0.mk (blk_below (g := gb123) (o := .cells #[.int .i64 a2_0, .int .i64 a2_1, .int .i64 a2_2, .bool a2_3] 26 (0, 0)) (by (with_reducible repeat (first | refine blk_drewN ?_ _ | refine blk_drew ?_ | refine blk_alloc ?_ _)); exact BK123.out) hb); have n3_ := Aside0.mk (below_step (by repeat (first | (with_reducible first | exact HB.out | apply below_alloc | apply pw_below_drewN | apply below_drew1 | refine below_set ?_ GE123.out) | exact HB.out)) hb); have n4_ := Aside0.mk (hbox); have n5_ := Aside0.mk ((by rw [hg]; exact (below_size (by repeat (first | (with_reducible first | exact HB.out | apply below_alloc | apply pw_below_drewN | apply below_drew1 | refine below_set ?_ GE123.out) | exact HB.out))) : w.heap.size ≤ gb134)); have n6_ := Aside0.mk ((by rw [hg]; exact (below_size (by repeat (first | (with_reducible first | exact HB.out | apply below_alloc | apply pw_below_drewN | apply below_drew1 | refine below_set ?_ GE123.out) | exact HB.out))) : w.heap.size ≤ gb134)); have n7_ := Aside0.mk ((by rw [hg]; exact Nat.ne_of_lt (blk_lt (g := gb123) (o := .cells #[.int .i64 a2_0, .int .i64 a2_1, .int .i64 a2_2, .bool a2_3] 26 (0, 0)) (by (with_reducible repeat (first | refine blk_drewN ?_ _ | refine blk_drew ?_ | refine blk_alloc ?_ _)); exact BK123.out)) : gb123 ≠ gb134)); have n8_ := Aside0.mk ((by rw [hg]; exact Nat.ne_of_gt (blk_lt (g := gb123) (o := .cells #[.int .i64 a2_0, .int .i64 a2_1, .int .i64 a2_2, .bool a2_3] 26 (0, 0)) (by (with_reducible repeat (first | refine blk_drewN ?_ _ | refine blk_drew ?_ | refine blk_alloc ?_ _)); exact BK123.out)) : gb134 ≠ gb123)); clear HO_8; clear HO_59; clear BK123; clear HB; have HO_8 := n0_; have HO_59 := n1_; have BK123 := n2_; have HB := n3_; have BK134 := n4_; have GW134 := n5_; have GE134 := n6_; have NB123_134 := n7_; have NB134_123 := n8_; clear n0_ n1_ n2_ n3_ n4_ n5_ n6_ n7_ n8_; clear hb hbox hg; have hnb74 := NB134_123.out; have hnc74 := NB123_134.out; have hcz75_0 : w73.cell? ⟨gb134, 0, none⟩ = some (.int .i64 0) := (blk_cell BK134.out 0).trans rfl; have hcz75_1 : w73.cell? ⟨gb134, 1, none⟩ = some (.int .i64 0) := (blk_cell BK134.out 1).trans rfl; have hcz75_2 : w73.cell? ⟨gb134, 2, none⟩ = some (.bool false) := (blk_cell BK134.out 2).trans rfl; have hfz75_0 := blk_frozen BK134.out 0; have hfz75_1 := blk_frozen BK134.out 1; have hfz75_2 := blk_frozen BK134.out 2; have hcz76_0 : w73.cell? ⟨gb123, 0, none⟩ = some (.int .i64 a2_0) := (blk_cell BK123.out 0).trans rfl; have hcz76_1 : w73.cell? ⟨gb123, 1, none⟩ = some (.int .i64 a2_1) := (blk_cell BK123.out 1).trans rfl; have hcz76_2 : w73.cell? ⟨gb123, 2, none⟩ = some (.int .i64 a2_2) := (blk_cell BK123.out 2).trans rfl; have hcz76_3 : w73.cell? ⟨gb123, 3, none⟩ = some (.bool a2_3) := (blk_cell BK123.out 3).trans rfl; have hfz76_0 := blk_frozen BK123.out 0; have hfz76_1 := blk_frozen BK123.out 1; have hfz76_2 := blk_frozen BK123.out 2; have hfz76_3 := blk_frozen BK123.out 3))
                              go_ret
                              exact ⟨by first | rfl | (simp [errW_none, errW_some] <;> rfl) | (simp only [← hji18, ← hji19, ← hji20]; first | rfl | (simp [errW_none, errW_some] <;> rfl)) | (simp [*, errW_none, errW_some] <;> rfl), by repeat (first | (with_reducible first | exact HB.out | apply below_alloc | apply pw_below_drewN | apply below_drew1 | refine below_set ?_ GE123.out | refine below_set ?_ GE134.out) | exact HB.out)⟩
                          · rw [if_neg c41] at H
                            have c41b0 : decide (x61_3 < (wrap64 ((t129.length : Int) - 1))) = false := decide_eq_false c41
                            clear c41
                            by_cases c77 : x61_3 = (wrap64 ((t129.length : Int) - 1))
                            · rw [if_pos c77] at H
                              have c77b0 : (x61_3 == (wrap64 ((t129.length : Int) - 1))) = true := beq_iff_eq.mpr c77
                              have c77b1 : (x61_3 != (wrap64 ((t129.length : Int) - 1))) = false := bne_eq_false_iff_eq.mpr c77
                              clear c77
                              by_cases c78 : a2_3 = true
                              · subst c78
                                have H1 : (if (((rd_T34 t129 x61_3).f2) != (ji20 == a2_2)) = true then (some false) else (bywashlaw16_PumpOne.l0 k3 a1 ji20 t129 t129 (t129.length : Int) (wrap64 (x61_3 + 1)) a2_0 a2_1 a2_2 true)) = some r := by rw [if_pos rfl] at H; exact H
                                clear H
                                have H := H1
                                clear H1
                                by_cases c79 : (((rd_T34 t129 x61_3).f2) != (ji20 == a2_2)) = true
                                · rw [if_pos c79] at H
                                  have c79b0 : (((rd_T34 t129 x61_3).f2) != (ji20 == a2_2)) = true := c79
                                  (try (have c79b1 : decide (((rd_T34 t129 x61_3).f2) = (ji20 == a2_2)) = false := by simpa using c79))
                                  (try (have c79b2 : (((rd_T34 t129 x61_3).f2) == (ji20 == a2_2)) = false := by simpa using c79))
                                  (try (have c79b3 : ¬ (((rd_T34 t129 x61_3).f2) = (ji20 == a2_2)) := by simpa using c79))
                                  clear c79
                                  obtain rfl := Option.some.inj H
                                  have p133 : 0 ≤ (x61_3 : Int) := of_decide_eq_true (by first | (with_reducible assumption) | assumption)
                                  have q133 : x61_3 < (t129.length : Int) := of_decide_eq_true (by first | (with_reducible assumption) | assumption)
                                  obtain ⟨ad133, e133, hx133_0, hx133_1, hx133_2⟩ := at_T34 (Kd.R_reads' HO_59.out).2.2 x61_3 p133 q133
                                  cases e133
                                  replace p133 := eq_true p133
                                  replace q133 := eq_true q133
                                  go_wp2_with (first | ((with_reducible refine gate_dst (N := 10) rfl ?_); (try (refine gate_guard (by rfl) ?_; dsimp only)); refine box_event ?hg (N := 10) ?hd (cs := #[.int .i64 0, .int .i64 0, .bool false]) (t := 34) ?hr ?_; (case hd => rfl); (case hg => rfl); (case hr => first | (go_simp; done) | (go_simp; rfl)); intro gb134 hg w80 hbox hb; have n0_ := Aside0.mk (Kd.R_below (Kd.R_elderB (by (with_reducible repeat (first | apply Kd.R_alloc | apply Kd.R_drewN | apply Kd.R_drew)); exact HO_8.out) gb134 (Nat.le_of_eq hg.symm)) hb); have n1_ := Aside0.mk (Kd.R_below (Kd.R_elderB (by (with_reducible repeat (first | apply Kd.R_alloc | apply Kd.R_drewN | apply Kd.R_drew)); exact HO_59.out) gb134 (Nat.le_of_eq hg.symm)) hb); have n2_ := Aside0.mk (blk_below (g := gb123) (o := .cells #[.int .i64 a2_0, .int .i64 a2_1, .int .i64 a2_2, .bool true] 26 (0, 0)) (by (with_reducible repeat (first | refine blk_drewN ?_ _ | refine blk_drew ?_ | refine blk_alloc ?_ _)); exact BK123.out) hb); have n3_ := Aside0.mk (below_step (by repeat (first | (with_reducible first | exact HB.out | apply below_alloc | apply pw_below_drewN | apply below_drew1 | refine below_set ?_ GE123.out) | exact HB.out)) hb); have n4_ := Aside0.mk (hbox); have n5_ := Aside0.mk ((by rw [hg]; exact (below_size (by repeat (first | (with_reducible first | exact HB.out | apply below_alloc | apply pw_below_drewN | apply below_drew1 | refine below_set ?_ GE123.out) | exact HB.out))) : w.heap.size ≤ gb134)); have n6_ := Aside0.mk ((by rw [hg]; exact (below_size (by repeat (first | (with_reducible first | exact HB.out | apply below_alloc | apply pw_below_drewN | apply below_drew1 | refine below_set ?_ GE123.out) | exact HB.out))) : w.heap.size ≤ gb134)); have n7_ := Aside0.mk ((by rw [hg]; exact Nat.ne_of_lt (blk_lt (g := gb123) (o := .cells #[.int .i64 a2_0, .int .i64 a2_1, .int .i64 a2_2, .bool true] 26 (0, 0)) (by (with_reducible repeat (first | refine blk_drewN ?_ _ | refine blk_drew ?_ | refine blk_alloc ?_ _)); exact BK123.out)) : gb123 ≠ gb134)); have n8_ := Aside0.mk ((by rw [hg]; exact Nat.ne_of_gt (blk_lt (g := gb123) (o := .cells #[.int .i64 a2_0, .int .i64 a2_1, .int .i64 a2_2, .bool true] 26 (0, 0)) (by (with_reducible repeat (first | refine blk_drewN ?_ _ | refine blk_drew ?_ | refine blk_alloc ?_ _)); exact BK123.out)) : gb134 ≠ gb123)); clear HO_8; clear HO_59; clear BK123; clear HB; have HO_8 := n0_; have HO_59 := n1_; have BK123 := n2_; have HB := n3_; have BK134 := n4_; have GW134 := n5_; have GE134 := n6_; have NB123_134 := n7_; have NB134_123 := n8_; clear n0_ n1_ n2_ n3_ n4_ n5_ n6_ n7_ n8_; clear hb hbox hg; have hnb81 := NB134_123.out; have hnc81 := NB123_134.out; have hcz82_0 : w80.cell? ⟨gb134, 0, none⟩ = some (.int .i64 0) := (blk_cell BK134.out 0).trans rfl; have hcz82_1 : w80.cell? ⟨gb134, 1, none⟩ = some (.int .i64 0) := (blk_cell BK134.out 1).trans rfl; have hcz82_2 : w80.cell? ⟨gb134, 2, none⟩ = some (.bool false) := (blk_cell BK134.out 2).trans rfl; have hfz82_0 := blk_frozen BK134.out 0; have hfz82_1 := blk_frozen BK134.out 1; have hfz82_2 := blk_frozen BK134.out 2; have hcz83_0 : w80.cell? ⟨gb123, 0, none⟩ = some (.int .i64 a2_0) := (blk_cell BK123.out 0).trans rfl; have hcz83_1 : w80.cell? ⟨gb123, 1, none⟩ = some (.int .i64 a2_1) := (blk_cell BK123.out 1).trans rfl; have hcz83_2 : w80.cell? ⟨gb123, 2, none⟩ = some (.int .i64 a2_2) := (blk_cell BK123.out 2).trans rfl; have hcz83_3 : w80.cell? ⟨gb123, 3, none⟩ = some (.bool true) := (blk_cell BK123.out 3).trans rfl; have hfz83_0 := blk_frozen BK123.out 0; have hfz83_1 := blk_frozen BK123.out 1; have hfz83_2 := blk_frozen BK123.out 2; have hfz83_3 := blk_frozen BK123.out 3))
                                  go_ret
                                  exact ⟨by first | rfl | (simp [errW_none, errW_some] <;> rfl) | (simp only [← hji18, ← hji19, ← hji20]; first | rfl | (simp [errW_none, errW_some] <;> rfl)) | (simp [*, errW_none, errW_some] <;> rfl), by repeat (first | (with_reducible first | exact HB.out | apply below_alloc | apply pw_below_drewN | apply below_drew1 | refine below_set ?_ GE123.out | refine below_set ?_ GE134.out) | exact HB.out)⟩
                                · rw [if_neg c79] at H
                                  have c79b0 : (((rd_T34 t129 x61_3).f2) != (ji20 == a2_2)) = false := by simpa using c79
                                  (try (have c79b1 : decide (((rd_T34 t129 x61_3).f2) = (ji20 == a2_2)) = true := by simpa using c79))
                                  (try (have c79b2 : (((rd_T34 t129 x61_3).f2) == (ji20 == a2_2)) = true := by simpa using c79))
                                  clear c79
                                  have H' := Aside0.mk H
                                  clear H
                                  have p133 : 0 ≤ (x61_3 : Int) := of_decide_eq_true (by first | (with_reducible assumption) | assumption)
                                  have q133 : x61_3 < (t129.length : Int) := of_decide_eq_true (by first | (with_reducible assumption) | assumption)
                                  obtain ⟨ad133, e133, hx133_0, hx133_1, hx133_2⟩ := at_T34 (Kd.R_reads' HO_59.out).2.2 x61_3 p133 q133
                                  cases e133
                                  replace p133 := eq_true p133
                                  replace q133 := eq_true q133
                                  go_wp2_with (first | ((with_reducible refine gate_dst (N := 10) rfl ?_); (try (refine gate_guard (by rfl) ?_; dsimp only)); refine box_event ?hg (N := 10) ?hd (cs := #[.int .i64 0, .int .i64 0, .bool false]) (t := 34) ?hr ?_; (case hd => rfl); (case hg => rfl); (case hr => first | (go_simp; done) | (go_simp; rfl)); intro gb134 hg w84 hbox hb; have n0_ := Aside0.mk (Kd.R_below (Kd.R_elderB (by (with_reducible repeat (first | apply Kd.R_alloc | apply Kd.R_drewN | apply Kd.R_drew)); exact HO_8.out) gb134 (Nat.le_of_eq hg.symm)) hb); have n1_ := Aside0.mk (Kd.R_below (Kd.R_elderB (by (with_reducible repeat (first | apply Kd.R_alloc | apply Kd.R_drewN | apply Kd.R_drew)); exact HO_59.out) gb134 (Nat.le_of_eq hg.symm)) hb); have n2_ := Aside0.mk (blk_below (g := gb123) (o := .cells #[.int .i64 a2_0, .int .i64 a2_1, .int .i64 a2_2, .bool true] 26 (0, 0)) (by (with_reducible repeat (first | refine blk_drewN ?_ _ | refine blk_drew ?_ | refine blk_alloc ?_ _)); exact BK123.out) hb); have n3_ := Aside0.mk (below_step (by repeat (first | (with_reducible first | exact HB.out | apply below_alloc | apply pw_below_drewN | apply below_drew1 | refine below_set ?_ GE123.out) | exact HB.out)) hb); have n4_ := Aside0.mk (hbox); have n5_ := Aside0.mk ((by rw [hg]; exact (below_size (by repeat (first | (with_reducible first | exact HB.out | apply below_alloc | apply pw_below_drewN | apply below_drew1 | refine below_set ?_ GE123.out) | exact HB.out))) : w.heap.size ≤ gb134)); have n6_ := Aside0.mk ((by rw [hg]; exact (below_size (by repeat (first | (with_reducible first | exact HB.out | apply below_alloc | apply pw_below_drewN | apply below_drew1 | refine below_set ?_ GE123.out) | exact HB.out))) : w.heap.size ≤ gb134)); have n7_ := Aside0.mk ((by rw [hg]; exact Nat.ne_of_lt (blk_lt (g := gb123) (o := .cells #[.int .i64 a2_0, .int .i64 a2_1, .int .i64 a2_2, .bool true] 26 (0, 0)) (by (with_reducible repeat (first | refine blk_drewN ?_ _ | refine blk_drew ?_ | refine blk_alloc ?_ _)); exact BK123.out)) : gb123 ≠ gb134)); have n8_ := Aside0.mk ((by rw [hg]; exact Nat.ne_of_gt (blk_lt (g := gb123) (o := .cells #[.int .i64 a2_0, .int .i64 a2_1, .int .i64 a2_2, .bool true] 26 (0, 0)) (by (with_reducible repeat (first | refine blk_drewN ?_ _ | refine blk_drew ?_ | refine blk_alloc ?_ _)); exact BK123.out)) : gb134 ≠ gb123)); clear HO_8; clear HO_59; clear BK123; clear HB; have HO_8 := n0_; have HO_59 := n1_; have BK123 := n2_; have HB := n3_; have BK134 := n4_; have GW134 := n5_; have GE134 := n6_; have NB123_134 := n7_; have NB134_123 := n8_; clear n0_ n1_ n2_ n3_ n4_ n5_ n6_ n7_ n8_; clear hb hbox hg; have hnb85 := NB134_123.out; have hnc85 := NB123_134.out; have hcz86_0 : w84.cell? ⟨gb134, 0, none⟩ = some (.int .i64 0) := (blk_cell BK134.out 0).trans rfl; have hcz86_1 : w84.cell? ⟨gb134, 1, none⟩ = some (.int .i64 0) := (blk_cell BK134.out 1).trans rfl; have hcz86_2 : w84.cell? ⟨gb134, 2, none⟩ = some (.bool false) := (blk_cell BK134.out 2).trans rfl; have hfz86_0 := blk_frozen BK134.out 0; have hfz86_1 := blk_frozen BK134.out 1; have hfz86_2 := blk_frozen BK134.out 2; have hcz87_0 : w84.cell? ⟨gb123, 0, none⟩ = some (.int .i64 a2_0) := (blk_cell BK123.out 0).trans rfl; have hcz87_1 : w84.cell? ⟨gb123, 1, none⟩ = some (.int .i64 a2_1) := (blk_cell BK123.out 1).trans rfl; have hcz87_2 : w84.cell? ⟨gb123, 2, none⟩ = some (.int .i64 a2_2) := (blk_cell BK123.out 2).trans rfl; have hcz87_3 : w84.cell? ⟨gb123, 3, none⟩ = some (.bool true) := (blk_cell BK123.out 3).trans rfl; have hfz87_0 := blk_frozen BK123.out 0; have hfz87_1 := blk_frozen BK123.out 1; have hfz87_2 := blk_frozen BK123.out 2; have hfz87_3 := blk_frozen BK123.out 3))
                                  go_roundg k3
                                  case measure => have := HJ3.out; have := HJ21.out; have := HK3.out; omega
                                  case rel => exact ⟨(wrap64 (x61_3 + 1)), (by first | rfl | (simp; done) | (simp [*]; done)), H', ⟨by have := HJ3.out; have := HJ21.out; have := HK3.out; omega⟩, ⟨by (with_reducible repeat (first | apply Kd.R_alloc | apply Kd.R_drewN | apply Kd.R_drew)); exact Kd.R_mono (Kd.R_far (p := ⟨gb134, 2, none⟩) (Kd.R_far (p := ⟨gb134, 1, none⟩) (Kd.R_far (p := ⟨gb134, 0, none⟩) (Kd.R_mono HO_8.out (fun k_ hk => (⟨hk, hk.2⟩ : _ ∧ k_ ≠ gb134))) (fun _ hk => hk.2) (.int .i64 ((rd_T34 t129 x61_3).f0))) (fun _ hk => hk.2) (.int .i64 ((rd_T34 t129 x61_3).f1))) (fun _ hk => hk.2) (.bool ((rd_T34 t129 x61_3).f2))) (fun _ hk => trivial)⟩, ⟨by (with_reducible repeat (first | apply Kd.R_alloc | apply Kd.R_drewN | apply Kd.R_drew)); exact Kd.R_mono (Kd.R_far (p := ⟨gb134, 2, none⟩) (Kd.R_far (p := ⟨gb134, 1, none⟩) (Kd.R_far (p := ⟨gb134, 0, none⟩) (Kd.R_mono HO_59.out (fun k_ hk => (⟨hk, hk.2⟩ : _ ∧ k_ ≠ gb134))) (fun _ hk => hk.2) (.int .i64 ((rd_T34 t129 x61_3).f0))) (fun _ hk => hk.2) (.int .i64 ((rd_T34 t129 x61_3).f1))) (fun _ hk => hk.2) (.bool ((rd_T34 t129 x61_3).f2))) (fun _ hk => trivial)⟩, ⟨by (with_reducible repeat (first | refine blk_drewN ?_ _ | refine blk_drew ?_ | refine blk_alloc ?_ _)); refine blk_far ?_ NB123_134.out _; (with_reducible repeat (first | refine blk_drewN ?_ _ | refine blk_drew ?_ | refine blk_alloc ?_ _)); refine blk_far ?_ NB123_134.out _; (with_reducible repeat (first | refine blk_drewN ?_ _ | refine blk_drew ?_ | refine blk_alloc ?_ _)); refine blk_far ?_ NB123_134.out _; (with_reducible repeat (first | refine blk_drewN ?_ _ | refine blk_drew ?_ | refine blk_alloc ?_ _)); exact BK123.out⟩, ⟨by repeat (first | (with_reducible first | exact HB.out | apply below_alloc | apply pw_below_drewN | apply below_drew1 | refine below_set ?_ GE123.out | refine below_set ?_ GE134.out) | exact HB.out)⟩⟩
                              · replace c78 := Bool.eq_false_iff.mpr c78
                                subst c78
                                have H1 : (if (((rd_T34 t129 x61_3).f2) != false) = true then (some false) else (bywashlaw16_PumpOne.l0 k3 a1 ji20 t129 t129 (t129.length : Int) (wrap64 (x61_3 + 1)) a2_0 a2_1 a2_2 false)) = some r := by rw [if_neg (show ¬ (false = true) by decide)] at H; exact H
                                clear H
                                have H := H1
                                clear H1
                                by_cases c88 : (((rd_T34 t129 x61_3).f2) != false) = true
                                · rw [if_pos c88] at H
                                  have c88b0 : (((rd_T34 t129 x61_3).f2) != false) = true := c88
                                  (try (have c88b1 : decide (((rd_T34 t129 x61_3).f2) = false) = false := by simpa using c88))
                                  (try (have c88b2 : (((rd_T34 t129 x61_3).f2) == false) = false := by simpa using c88))
                                  (try (have c88b3 : ¬ (((rd_T34 t129 x61_3).f2) = false) := by simpa using c88))
                                  clear c88
                                  obtain rfl := Option.some.inj H
                                  have p133 : 0 ≤ (x61_3 : Int) := of_decide_eq_true (by first | (with_reducible assumption) | assumption)
                                  have q133 : x61_3 < (t129.length : Int) := of_decide_eq_true (by first | (with_reducible assumption) | assumption)
                                  obtain ⟨ad133, e133, hx133_0, hx133_1, hx133_2⟩ := at_T34 (Kd.R_reads' HO_59.out).2.2 x61_3 p133 q133
                                  cases e133
                                  replace p133 := eq_true p133
                                  replace q133 := eq_true q133
                                  go_wp2_with (first | ((with_reducible refine gate_dst (N := 10) rfl ?_); (try (refine gate_guard (by rfl) ?_; dsimp only)); refine box_event ?hg (N := 10) ?hd (cs := #[.int .i64 0, .int .i64 0, .bool false]) (t := 34) ?hr ?_; (case hd => rfl); (case hg => rfl); (case hr => first | (go_simp; done) | (go_simp; rfl)); intro gb134 hg w89 hbox hb; have n0_ := Aside0.mk (Kd.R_below (Kd.R_elderB (by (with_reducible repeat (first | apply Kd.R_alloc | apply Kd.R_drewN | apply Kd.R_drew)); exact HO_8.out) gb134 (Nat.le_of_eq hg.symm)) hb); have n1_ := Aside0.mk (Kd.R_below (Kd.R_elderB (by (with_reducible repeat (first | apply Kd.R_alloc | apply Kd.R_drewN | apply Kd.R_drew)); exact HO_59.out) gb134 (Nat.le_of_eq hg.symm)) hb); have n2_ := Aside0.mk (blk_below (g := gb123) (o := .cells #[.int .i64 a2_0, .int .i64 a2_1, .int .i64 a2_2, .bool false] 26 (0, 0)) (by (with_reducible repeat (first | refine blk_drewN ?_ _ | refine blk_drew ?_ | refine blk_alloc ?_ _)); exact BK123.out) hb); have n3_ := Aside0.mk (below_step (by repeat (first | (with_reducible first | exact HB.out | apply below_alloc | apply pw_below_drewN | apply below_drew1 | refine below_set ?_ GE123.out) | exact HB.out)) hb); have n4_ := Aside0.mk (hbox); have n5_ := Aside0.mk ((by rw [hg]; exact (below_size (by repeat (first | (with_reducible first | exact HB.out | apply below_alloc | apply pw_below_drewN | apply below_drew1 | refine below_set ?_ GE123.out) | exact HB.out))) : w.heap.size ≤ gb134)); have n6_ := Aside0.mk ((by rw [hg]; exact (below_size (by repeat (first | (with_reducible first | exact HB.out | apply below_alloc | apply pw_below_drewN | apply below_drew1 | refine below_set ?_ GE123.out) | exact HB.out))) : w.heap.size ≤ gb134)); have n7_ := Aside0.mk ((by rw [hg]; exact Nat.ne_of_lt (blk_lt (g := gb123) (o := .cells #[.int .i64 a2_0, .int .i64 a2_1, .int .i64 a2_2, .bool false] 26 (0, 0)) (by (with_reducible repeat (first | refine blk_drewN ?_ _ | refine blk_drew ?_ | refine blk_alloc ?_ _)); exact BK123.out)) : gb123 ≠ gb134)); have n8_ := Aside0.mk ((by rw [hg]; exact Nat.ne_of_gt (blk_lt (g := gb123) (o := .cells #[.int .i64 a2_0, .int .i64 a2_1, .int .i64 a2_2, .bool false] 26 (0, 0)) (by (with_reducible repeat (first | refine blk_drewN ?_ _ | refine blk_drew ?_ | refine blk_alloc ?_ _)); exact BK123.out)) : gb134 ≠ gb123)); clear HO_8; clear HO_59; clear BK123; clear HB; have HO_8 := n0_; have HO_59 := n1_; have BK123 := n2_; have HB := n3_; have BK134 := n4_; have GW134 := n5_; have GE134 := n6_; have NB123_134 := n7_; have NB134_123 := n8_; clear n0_ n1_ n2_ n3_ n4_ n5_ n6_ n7_ n8_; clear hb hbox hg; have hnb90 := NB134_123.out; have hnc90 := NB123_134.out; have hcz91_0 : w89.cell? ⟨gb134, 0, none⟩ = some (.int .i64 0) := (blk_cell BK134.out 0).trans rfl; have hcz91_1 : w89.cell? ⟨gb134, 1, none⟩ = some (.int .i64 0) := (blk_cell BK134.out 1).trans rfl; have hcz91_2 : w89.cell? ⟨gb134, 2, none⟩ = some (.bool false) := (blk_cell BK134.out 2).trans rfl; have hfz91_0 := blk_frozen BK134.out 0; have hfz91_1 := blk_frozen BK134.out 1; have hfz91_2 := blk_frozen BK134.out 2; have hcz92_0 : w89.cell? ⟨gb123, 0, none⟩ = some (.int .i64 a2_0) := (blk_cell BK123.out 0).trans rfl; have hcz92_1 : w89.cell? ⟨gb123, 1, none⟩ = some (.int .i64 a2_1) := (blk_cell BK123.out 1).trans rfl; have hcz92_2 : w89.cell? ⟨gb123, 2, none⟩ = some (.int .i64 a2_2) := (blk_cell BK123.out 2).trans rfl; have hcz92_3 : w89.cell? ⟨gb123, 3, none⟩ = some (.bool false) := (blk_cell BK123.out 3).trans rfl; have hfz92_0 := blk_frozen BK123.out 0; have hfz92_1 := blk_frozen BK123.out 1; have hfz92_2 := blk_frozen BK123.out 2; have hfz92_3 := blk_frozen BK123.out 3))
                                  go_ret
                                  exact ⟨by first | rfl | (simp [errW_none, errW_some] <;> rfl) | (simp only [← hji18, ← hji19, ← hji20]; first | rfl | (simp [errW_none, errW_some] <;> rfl)) | (simp [*, errW_none, errW_some] <;> rfl), by repeat (first | (with_reducible first | exact HB.out | apply below_alloc | apply pw_below_drewN | apply below_drew1 | refine below_set ?_ GE123.out | refine below_set ?_ GE134.out) | exact HB.out)⟩
                                · rw [if_neg c88] at H
                                  have c88b0 : (((rd_T34 t129 x61_3).f2) != false) = false := by simpa using c88
                                  (try (have c88b1 : decide (((rd_T34 t129 x61_3).f2) = false) = true := by simpa using c88))
                                  (try (have c88b2 : (((rd_T34 t129 x61_3).f2) == false) = true := by simpa using c88))
                                  clear c88
                                  have H' := Aside0.mk H
                                  clear H
                                  have p133 : 0 ≤ (x61_3 : Int) := of_decide_eq_true (by first | (with_reducible assumption) | assumption)
                                  have q133 : x61_3 < (t129.length : Int) := of_decide_eq_true (by first | (with_reducible assumption) | assumption)
                                  obtain ⟨ad133, e133, hx133_0, hx133_1, hx133_2⟩ := at_T34 (Kd.R_reads' HO_59.out).2.2 x61_3 p133 q133
                                  cases e133
                                  replace p133 := eq_true p133
                                  replace q133 := eq_true q133
                                  go_wp2_with (first | ((with_reducible refine gate_dst (N := 10) rfl ?_); (try (refine gate_guard (by rfl) ?_; dsimp only)); refine box_event ?hg (N := 10) ?hd (cs := #[.int .i64 0, .int .i64 0, .bool false]) (t := 34) ?hr ?_; (case hd => rfl); (case hg => rfl); (case hr => first | (go_simp; done) | (go_simp; rfl)); intro gb134 hg w93 hbox hb; have n0_ := Aside0.mk (Kd.R_below (Kd.R_elderB (by (with_reducible repeat (first | apply Kd.R_alloc | apply Kd.R_drewN | apply Kd.R_drew)); exact HO_8.out) gb134 (Nat.le_of_eq hg.symm)) hb); have n1_ := Aside0.mk (Kd.R_below (Kd.R_elderB (by (with_reducible repeat (first | apply Kd.R_alloc | apply Kd.R_drewN | apply Kd.R_drew)); exact HO_59.out) gb134 (Nat.le_of_eq hg.symm)) hb); have n2_ := Aside0.mk (blk_below (g := gb123) (o := .cells #[.int .i64 a2_0, .int .i64 a2_1, .int .i64 a2_2, .bool false] 26 (0, 0)) (by (with_reducible repeat (first | refine blk_drewN ?_ _ | refine blk_drew ?_ | refine blk_alloc ?_ _)); exact BK123.out) hb); have n3_ := Aside0.mk (below_step (by repeat (first | (with_reducible first | exact HB.out | apply below_alloc | apply pw_below_drewN | apply below_drew1 | refine below_set ?_ GE123.out) | exact HB.out)) hb); have n4_ := Aside0.mk (hbox); have n5_ := Aside0.mk ((by rw [hg]; exact (below_size (by repeat (first | (with_reducible first | exact HB.out | apply below_alloc | apply pw_below_drewN | apply below_drew1 | refine below_set ?_ GE123.out) | exact HB.out))) : w.heap.size ≤ gb134)); have n6_ := Aside0.mk ((by rw [hg]; exact (below_size (by repeat (first | (with_reducible first | exact HB.out | apply below_alloc | apply pw_below_drewN | apply below_drew1 | refine below_set ?_ GE123.out) | exact HB.out))) : w.heap.size ≤ gb134)); have n7_ := Aside0.mk ((by rw [hg]; exact Nat.ne_of_lt (blk_lt (g := gb123) (o := .cells #[.int .i64 a2_0, .int .i64 a2_1, .int .i64 a2_2, .bool false] 26 (0, 0)) (by (with_reducible repeat (first | refine blk_drewN ?_ _ | refine blk_drew ?_ | refine blk_alloc ?_ _)); exact BK123.out)) : gb123 ≠ gb134)); have n8_ := Aside0.mk ((by rw [hg]; exact Nat.ne_of_gt (blk_lt (g := gb123) (o := .cells #[.int .i64 a2_0, .int .i64 a2_1, .int .i64 a2_2, .bool false] 26 (0, 0)) (by (with_reducible repeat (first | refine blk_drewN ?_ _ | refine blk_drew ?_ | refine blk_alloc ?_ _)); exact BK123.out)) : gb134 ≠ gb123)); clear HO_8; clear HO_59; clear BK123; clear HB; have HO_8 := n0_; have HO_59 := n1_; have BK123 := n2_; have HB := n3_; have BK134 := n4_; have GW134 := n5_; have GE134 := n6_; have NB123_134 := n7_; have NB134_123 := n8_; clear n0_ n1_ n2_ n3_ n4_ n5_ n6_ n7_ n8_; clear hb hbox hg; have hnb94 := NB134_123.out; have hnc94 := NB123_134.out; have hcz95_0 : w93.cell? ⟨gb134, 0, none⟩ = some (.int .i64 0) := (blk_cell BK134.out 0).trans rfl; have hcz95_1 : w93.cell? ⟨gb134, 1, none⟩ = some (.int .i64 0) := (blk_cell BK134.out 1).trans rfl; have hcz95_2 : w93.cell? ⟨gb134, 2, none⟩ = some (.bool false) := (blk_cell BK134.out 2).trans rfl; have hfz95_0 := blk_frozen BK134.out 0; have hfz95_1 := blk_frozen BK134.out 1; have hfz95_2 := blk_frozen BK134.out 2; have hcz96_0 : w93.cell? ⟨gb123, 0, none⟩ = some (.int .i64 a2_0) := (blk_cell BK123.out 0).trans rfl; have hcz96_1 : w93.cell? ⟨gb123, 1, none⟩ = some (.int .i64 a2_1) := (blk_cell BK123.out 1).trans rfl; have hcz96_2 : w93.cell? ⟨gb123, 2, none⟩ = some (.int .i64 a2_2) := (blk_cell BK123.out 2).trans rfl; have hcz96_3 : w93.cell? ⟨gb123, 3, none⟩ = some (.bool false) := (blk_cell BK123.out 3).trans rfl; have hfz96_0 := blk_frozen BK123.out 0; have hfz96_1 := blk_frozen BK123.out 1; have hfz96_2 := blk_frozen BK123.out 2; have hfz96_3 := blk_frozen BK123.out 3))
                                  go_roundg k3
                                  case measure => have := HJ3.out; have := HJ21.out; have := HK3.out; omega
                                  case rel => exact ⟨(wrap64 (x61_3 + 1)), (by first | rfl | (simp; done) | (simp [*]; done)), H', ⟨by have := HJ3.out; have := HJ21.out; have := HK3.out; omega⟩, ⟨by (with_reducible repeat (first | apply Kd.R_alloc | apply Kd.R_drewN | apply Kd.R_drew)); exact Kd.R_mono (Kd.R_far (p := ⟨gb134, 2, none⟩) (Kd.R_far (p := ⟨gb134, 1, none⟩) (Kd.R_far (p := ⟨gb134, 0, none⟩) (Kd.R_mono HO_8.out (fun k_ hk => (⟨hk, hk.2⟩ : _ ∧ k_ ≠ gb134))) (fun _ hk => hk.2) (.int .i64 ((rd_T34 t129 x61_3).f0))) (fun _ hk => hk.2) (.int .i64 ((rd_T34 t129 x61_3).f1))) (fun _ hk => hk.2) (.bool ((rd_T34 t129 x61_3).f2))) (fun _ hk => trivial)⟩, ⟨by (with_reducible repeat (first | apply Kd.R_alloc | apply Kd.R_drewN | apply Kd.R_drew)); exact Kd.R_mono (Kd.R_far (p := ⟨gb134, 2, none⟩) (Kd.R_far (p := ⟨gb134, 1, none⟩) (Kd.R_far (p := ⟨gb134, 0, none⟩) (Kd.R_mono HO_59.out (fun k_ hk => (⟨hk, hk.2⟩ : _ ∧ k_ ≠ gb134))) (fun _ hk => hk.2) (.int .i64 ((rd_T34 t129 x61_3).f0))) (fun _ hk => hk.2) (.int .i64 ((rd_T34 t129 x61_3).f1))) (fun _ hk => hk.2) (.bool ((rd_T34 t129 x61_3).f2))) (fun _ hk => trivial)⟩, ⟨by (with_reducible repeat (first | refine blk_drewN ?_ _ | refine blk_drew ?_ | refine blk_alloc ?_ _)); refine blk_far ?_ NB123_134.out _; (with_reducible repeat (first | refine blk_drewN ?_ _ | refine blk_drew ?_ | refine blk_alloc ?_ _)); refine blk_far ?_ NB123_134.out _; (with_reducible repeat (first | refine blk_drewN ?_ _ | refine blk_drew ?_ | refine blk_alloc ?_ _)); refine blk_far ?_ NB123_134.out _; (with_reducible repeat (first | refine blk_drewN ?_ _ | refine blk_drew ?_ | refine blk_alloc ?_ _)); exact BK123.out⟩, ⟨by repeat (first | (with_reducible first | exact HB.out | apply below_alloc | apply pw_below_drewN | apply below_drew1 | refine below_set ?_ GE123.out | refine below_set ?_ GE134.out) | exact HB.out)⟩⟩
                            · rw [if_neg c77] at H
                              have c77b0 : (x61_3 == (wrap64 ((t129.length : Int) - 1))) = false := beq_eq_false_iff_ne.mpr c77
                              have c77b1 : (x61_3 != (wrap64 ((t129.length : Int) - 1))) = true := bne_iff_ne.mpr c77
                              have H' := Aside0.mk H
                              clear H
                              have p133 : 0 ≤ (x61_3 : Int) := of_decide_eq_true (by first | (with_reducible assumption) | assumption)
                              have q133 : x61_3 < (t129.length : Int) := of_decide_eq_true (by first | (with_reducible assumption) | assumption)
                              obtain ⟨ad133, e133, hx133_0, hx133_1, hx133_2⟩ := at_T34 (Kd.R_reads' HO_59.out).2.2 x61_3 p133 q133
                              cases e133
                              replace p133 := eq_true p133
                              replace q133 := eq_true q133
                              go_wp2_with (first | ((with_reducible refine gate_dst (N := 10) rfl ?_); (try (refine gate_guard (by rfl) ?_; dsimp only)); refine box_event ?hg (N := 10) ?hd (cs := #[.int .i64 0, .int .i64 0, .bool false]) (t := 34) ?hr ?_; (case hd => rfl); (case hg => rfl); (case hr => first | (go_simp; done) | (go_simp; rfl)); intro gb134 hg w97 hbox hb; have n0_ := Aside0.mk (Kd.R_below (Kd.R_elderB (by (with_reducible repeat (first | apply Kd.R_alloc | apply Kd.R_drewN | apply Kd.R_drew)); exact HO_8.out) gb134 (Nat.le_of_eq hg.symm)) hb); have n1_ := Aside0.mk (Kd.R_below (Kd.R_elderB (by (with_reducible repeat (first | apply Kd.R_alloc | apply Kd.R_drewN | apply Kd.R_drew)); exact HO_59.out) gb134 (Nat.le_of_eq hg.symm)) hb); have n2_ := Aside0.mk (blk_below (g := gb123) (o := .cells #[.int .i64 a2_0, .int .i64 a2_1, .int .i64 a2_2, .bool a2_3] 26 (0, 0)) (by (with_reducible repeat (first | refine blk_drewN ?_ _ | refine blk_drew ?_ | refine blk_alloc ?_ _)); exact BK123.out) hb); have n3_ := Aside0.mk (below_step (by repeat (first | (with_reducible first | exact HB.out | apply below_alloc | apply pw_below_drewN | apply below_drew1 | refine below_set ?_ GE123.out) | exact HB.out)) hb); have n4_ := Aside0.mk (hbox); have n5_ := Aside0.mk ((by rw [hg]; exact (below_size (by repeat (first | (with_reducible first | exact HB.out | apply below_alloc | apply pw_below_drewN | apply below_drew1 | refine below_set ?_ GE123.out) | exact HB.out))) : w.heap.size ≤ gb134)); have n6_ := Aside0.mk ((by rw [hg]; exact (below_size (by repeat (first | (with_reducible first | exact HB.out | apply below_alloc | apply pw_below_drewN | apply below_drew1 | refine below_set ?_ GE123.out) | exact HB.out))) : w.heap.size ≤ gb134)); have n7_ := Aside0.mk ((by rw [hg]; exact Nat.ne_of_lt (blk_lt (g := gb123) (o := .cells #[.int .i64 a2_0, .int .i64 a2_1, .int .i64 a2_2, .bool a2_3] 26 (0, 0)) (by (with_reducible repeat (first | refine blk_drewN ?_ _ | refine blk_drew ?_ | refine blk_alloc ?_ _)); exact BK123.out)) : gb123 ≠ gb134)); have n8_ := Aside0.mk ((by rw [hg]; exact Nat.ne_of_gt (blk_lt (g := gb123) (o := .cells #[.int .i64 a2_0, .int .i64 a2_1, .int .i64 a2_2, .bool a2_3] 26 (0, 0)) (by (with_reducible repeat (first | refine blk_drewN ?_ _ | refine blk_drew ?_ | refine blk_alloc ?_ _)); exact BK123.out)) : gb134 ≠ gb123)); clear HO_8; clear HO_59; clear BK123; clear HB; have HO_8 := n0_; have HO_59 := n1_; have BK123 := n2_; have HB := n3_; have BK134 := n4_; have GW134 := n5_; have GE134 := n6_; have NB123_134 := n7_; have NB134_123 := n8_; clear n0_ n1_ n2_ n3_ n4_ n5_ n6_ n7_ n8_; clear hb hbox hg; have hnb98 := NB134_123.out; have hnc98 := NB123_134.out; have hcz99_0 : w97.cell? ⟨gb134, 0, none⟩ = some (.int .i64 0) := (blk_cell BK134.out 0).trans rfl; have hcz99_1 : w97.cell? ⟨gb134, 1, none⟩ = some (.int .i64 0) := (blk_cell BK134.out 1).trans rfl; have hcz99_2 : w97.cell? ⟨gb134, 2, none⟩ = some (.bool false) := (blk_cell BK134.out 2).trans rfl; have hfz99_0 := blk_frozen BK134.out 0; have hfz99_1 := blk_frozen BK134.out 1; have hfz99_2 := blk_frozen BK134.out 2; have hcz100_0 : w97.cell? ⟨gb123, 0, none⟩ = some (.int .i64 a2_0) := (blk_cell BK123.out 0).trans rfl; have hcz100_1 : w97.cell? ⟨gb123, 1, none⟩ = some (.int .i64 a2_1) := (blk_cell BK123.out 1).trans rfl; have hcz100_2 : w97.cell? ⟨gb123, 2, none⟩ = some (.int .i64 a2_2) := (blk_cell BK123.out 2).trans rfl; have hcz100_3 : w97.cell? ⟨gb123, 3, none⟩ = some (.bool a2_3) := (blk_cell BK123.out 3).trans rfl; have hfz100_0 := blk_frozen BK123.out 0; have hfz100_1 := blk_frozen BK123.out 1; have hfz100_2 := blk_frozen BK123.out 2; have hfz100_3 := blk_frozen BK123.out 3))
                              go_roundg k3
                              case measure => have := HJ3.out; have := HJ21.out; have := HK3.out; omega
                              case rel => exact ⟨(wrap64 (x61_3 + 1)), (by first | rfl | (simp; done) | (simp [*]; done)), H', ⟨by have := HJ3.out; have := HJ21.out; have := HK3.out; omega⟩, ⟨by (with_reducible repeat (first | apply Kd.R_alloc | apply Kd.R_drewN | apply Kd.R_drew)); exact Kd.R_mono (Kd.R_far (p := ⟨gb134, 2, none⟩) (Kd.R_far (p := ⟨gb134, 1, none⟩) (Kd.R_far (p := ⟨gb134, 0, none⟩) (Kd.R_mono HO_8.out (fun k_ hk => (⟨hk, hk.2⟩ : _ ∧ k_ ≠ gb134))) (fun _ hk => hk.2) (.int .i64 ((rd_T34 t129 x61_3).f0))) (fun _ hk => hk.2) (.int .i64 ((rd_T34 t129 x61_3).f1))) (fun _ hk => hk.2) (.bool ((rd_T34 t129 x61_3).f2))) (fun _ hk => trivial)⟩, ⟨by (with_reducible repeat (first | apply Kd.R_alloc | apply Kd.R_drewN | apply Kd.R_drew)); exact Kd.R_mono (Kd.R_far (p := ⟨gb134, 2, none⟩) (Kd.R_far (p := ⟨gb134, 1, none⟩) (Kd.R_far (p := ⟨gb134, 0, none⟩) (Kd.R_mono HO_59.out (fun k_ hk => (⟨hk, hk.2⟩ : _ ∧ k_ ≠ gb134))) (fun _ hk => hk.2) (.int .i64 ((rd_T34 t129 x61_3).f0))) (fun _ hk => hk.2) (.int .i64 ((rd_T34 t129 x61_3).f1))) (fun _ hk => hk.2) (.bool ((rd_T34 t129 x61_3).f2))) (fun _ hk => trivial)⟩, ⟨by (with_reducible repeat (first | refine blk_drewN ?_ _ | refine blk_drew ?_ | refine blk_alloc ?_ _)); refine blk_far ?_ NB123_134.out _; (with_reducible repeat (first | refine blk_drewN ?_ _ | refine blk_drew ?_ | refine blk_alloc ?_ _)); refine blk_far ?_ NB123_134.out _; (with_reducible repeat (first | refine blk_drewN ?_ _ | refine blk_drew ?_ | refine blk_alloc ?_ _)); refine blk_far ?_ NB123_134.out _; (with_reducible repeat (first | refine blk_drewN ?_ _ | refine blk_drew ?_ | refine blk_alloc ?_ _)); exact BK123.out⟩, ⟨by repeat (first | (with_reducible first | exact HB.out | apply below_alloc | apply pw_below_drewN | apply below_drew1 | refine below_set ?_ GE123.out | refine below_set ?_ GE134.out) | exact HB.out)⟩⟩
                        · rw [if_neg c40] at H
                          have c40b0 : (((rd_T34 t129 x61_3).f0) == a2_0) = false := beq_eq_false_iff_ne.mpr c40
                          have c40b1 : (((rd_T34 t129 x61_3).f0) != a2_0) = true := bne_iff_ne.mpr c40
                          obtain rfl := Option.some.inj H
                          have p133 : 0 ≤ (x61_3 : Int) := of_decide_eq_true (by first | (with_reducible assumption) | assumption)
                          have q133 : x61_3 < (t129.length : Int) := of_decide_eq_true (by first | (with_reducible assumption) | assumption)
                          obtain ⟨ad133, e133, hx133_0, hx133_1, hx133_2⟩ := at_T34 (Kd.R_reads' HO_59.out).2.2 x61_3 p133 q133
                          cases e133
                          replace p133 := eq_true p133
                          replace q133 := eq_true q133
                          go_wp2_with (first | ((with_reducible refine gate_dst (N := 10) rfl ?_); (try (refine gate_guard (by rfl) ?_; dsimp only)); refine box_event ?hg (N := 10) ?hd (cs := #[.int .i64 0, .int .i64 0, .bool false]) (t := 34) ?hr ?_; (case hd => rfl); (case hg => rfl); (case hr => first | (go_simp; done) | (go_simp; rfl)); intro gb134 hg w101 hbox hb; have n0_ := Aside0.mk (Kd.R_below (Kd.R_elderB (by (with_reducible repeat (first | apply Kd.R_alloc | apply Kd.R_drewN | apply Kd.R_drew)); exact HO_8.out) gb134 (Nat.le_of_eq hg.symm)) hb); have n1_ := Aside0.mk (Kd.R_below (Kd.R_elderB (by (with_reducible repeat (first | apply Kd.R_alloc | apply Kd.R_drewN | apply Kd.R_drew)); exact HO_59.out) gb134 (Nat.le_of_eq hg.symm)) hb); have n2_ := Aside0.mk (blk_below (g := gb123) (o := .cells #[.int .i64 a2_0, .int .i64 a2_1, .int .i64 a2_2, .bool a2_3] 26 (0, 0)) (by (with_reducible repeat (first | refine blk_drewN ?_ _ | refine blk_drew ?_ | refine blk_alloc ?_ _)); exact BK123.out) hb); have n3_ := Aside0.mk (below_step (by repeat (first | (with_reducible first | exact HB.out | apply below_alloc | apply pw_below_drewN | apply below_drew1 | refine below_set ?_ GE123.out) | exact HB.out)) hb); have n4_ := Aside0.mk (hbox); have n5_ := Aside0.mk ((by rw [hg]; exact (below_size (by repeat (first | (with_reducible first | exact HB.out | apply below_alloc | apply pw_below_drewN | apply below_drew1 | refine below_set ?_ GE123.out) | exact HB.out))) : w.heap.size ≤ gb134)); have n6_ := Aside0.mk ((by rw [hg]; exact (below_size (by repeat (first | (with_reducible first | exact HB.out | apply below_alloc | apply pw_below_drewN | apply below_drew1 | refine below_set ?_ GE123.out) | exact HB.out))) : w.heap.size ≤ gb134)); have n7_ := Aside0.mk ((by rw [hg]; exact Nat.ne_of_lt (blk_lt (g := gb123) (o := .cells #[.int .i64 a2_0, .int .i64 a2_1, .int .i64 a2_2, .bool a2_3] 26 (0, 0)) (by (with_reducible repeat (first | refine blk_drewN ?_ _ | refine blk_drew ?_ | refine blk_alloc ?_ _)); exact BK123.out)) : gb123 ≠ gb134)); have n8_ := Aside0.mk ((by rw [hg]; exact Nat.ne_of_gt (blk_lt (g := gb123) (o := .cells #[.int .i64 a2_0, .int .i64 a2_1, .int .i64 a2_2, .bool a2_3] 26 (0, 0)) (by (with_reducible repeat (first | refine blk_drewN ?_ _ | refine blk_drew ?_ | refine blk_alloc ?_ _)); exact BK123.out)) : gb134 ≠ gb123)); clear HO_8; clear HO_59; clear BK123; clear HB; have HO_8 := n0_; have HO_59 := n1_; have BK123 := n2_; have HB := n3_; have BK134 := n4_; have GW134 := n5_; have GE134 := n6_; have NB123_134 := n7_; have NB134_123 := n8_; clear n0_ n1_ n2_ n3_ n4_ n5_ n6_ n7_ n8_; clear hb hbox hg; have hnb102 := NB134_123.out; have hnc102 := NB123_134.out; have hcz103_0 : w101.cell? ⟨gb134, 0, none⟩ = some (.int .i64 0) := (blk_cell BK134.out 0).trans rfl; have hcz103_1 : w101.cell? ⟨gb134, 1, none⟩ = some (.int .i64 0) := (blk_cell BK134.out 1).trans rfl; have hcz103_2 : w101.cell? ⟨gb134, 2, none⟩ = some (.bool false) := (blk_cell BK134.out 2).trans rfl; have hfz103_0 := blk_frozen BK134.out 0; have hfz103_1 := blk_frozen BK134.out 1; have hfz103_2 := blk_frozen BK134.out 2; have hcz104_0 : w101.cell? ⟨gb123, 0, none⟩ = some (.int .i64 a2_0) := (blk_cell BK123.out 0).trans rfl; have hcz104_1 : w101.cell? ⟨gb123, 1, none⟩ = some (.int .i64 a2_1) := (blk_cell BK123.out 1).trans rfl; have hcz104_2 : w101.cell? ⟨gb123, 2, none⟩ = some (.int .i64 a2_2) := (blk_cell BK123.out 2).trans rfl; have hcz104_3 : w101.cell? ⟨gb123, 3, none⟩ = some (.bool a2_3) := (blk_cell BK123.out 3).trans rfl; have hfz104_0 := blk_frozen BK123.out 0; have hfz104_1 := blk_frozen BK123.out 1; have hfz104_2 := blk_frozen BK123.out 2; have hfz104_3 := blk_frozen BK123.out 3))
                          go_ret
                          exact ⟨by first | rfl | (simp [errW_none, errW_some] <;> rfl) | (simp only [← hji18, ← hji19, ← hji20]; first | rfl | (simp [errW_none, errW_some] <;> rfl)) | (simp [*, errW_none, errW_some] <;> rfl), by repeat (first | (with_reducible first | exact HB.out | apply below_alloc | apply pw_below_drewN | apply below_drew1 | refine below_set ?_ GE123.out | refine below_set ?_ GE134.out) | exact HB.out)⟩
                      · rw [if_neg c39] at H
                        exact absurd H (by simp)
                    · rw [if_neg c38] at H
                      exact absurd H (by simp)
                  · rw [if_neg c37] at H
                    have c37b0 : decide (x61_3 < (t129.length : Int)) = false := decide_eq_false c37
                    clear c37
                    obtain rfl := Option.some.inj H
                    go_wp2
                    go_ret
                    exact ⟨by first | rfl | (simp [errW_none, errW_some] <;> rfl) | (simp only [← hji18, ← hji19, ← hji20]; first | rfl | (simp [errW_none, errW_some] <;> rfl)) | (simp [*, errW_none, errW_some] <;> rfl), by repeat (first | (with_reducible first | exact HB.out | apply below_alloc | apply pw_below_drewN | apply below_drew1 | refine below_set ?_ GE123.out) | exact HB.out)⟩

end Go.Proofs.Ytjjdhaphgnldaaa.PPumpOne
