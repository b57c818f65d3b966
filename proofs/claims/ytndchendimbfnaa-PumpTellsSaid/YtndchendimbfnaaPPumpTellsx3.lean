-- Written by a program of this session (the kit's printer, turned): the functions that the law reaches.
import Derived.Test.YtndchendimbfnaaPPumpTellsx0
namespace Go.Proofs.Ytndchendimbfnaa.PPumpTells
open Go.RowKit Go.Proofs.YtndchendimbfnaaW.PrintWords Go.Proofs.YtndchendimbfnaaW.PrintLast Go.Proofs.YtndchendimbfnaaW.PrintMore
attribute [local go_sem] max2_int min2_int max_two min_two max_three min_three max_four min_four   -- for this text's walks alone
set_option linter.unusedVariables false
set_option linter.unusedSimpArgs false

/-! ### bywashlaw16_Light: function 7 -/
def bywashlaw16_Light.l0 : Nat → List (S26) → List (S26) → Int → Int → Option (Bool)
  | 0, _, _, _, _ => none
  | k + 1, x1, x7, x8, x9 => if x9 < x8 then (if 0 ≤ x9 then (if x9 < (x7.length : Int) then (if ((rd_T26 x7 x9).f2) > 4000 then (some false) else (bywashlaw16_Light.l0 k x1 x7 x8 (wrap64 (x9 + 1)))) else (none)) else (none)) else (some (decide ((x1.length : Int) ≤ 30)))
def bywashlaw16_Light.f (k : Nat) (a0 : Int) (l1 : List (S26)) : Option (Bool) := bywashlaw16_Light.l0 k l1 l1 (l1.length : Int) 0
theorem bywashlaw16_Light.mono_l : ∀ k, (∀ y0 y1 y2 y3, LeO (bywashlaw16_Light.l0 k y0 y1 y2 y3) (bywashlaw16_Light.l0 (k + 1) y0 y1 y2 y3))
  | 0 => fun _ _ _ _ r h => by simp [bywashlaw16_Light.l0] at h
  | k + 1 => by
    have ih0 := bywashlaw16_Light.mono_l k
    · intro y0 y1 y2 y3
      unfold bywashlaw16_Light.l0
      repeat' first
      | (with_reducible exact ih0 _ _ _ _)
      | (with_reducible exact LeO.refl _)
      | (with_reducible exact LeO.none _)
      | (with_reducible refine LeO.ite ?_ ?_)
      | (with_reducible refine LeO.bind ?_ (fun _ => ?_))
      | exact ih0 _ _ _ _
      | exact LeO.none _
      | refine LeO.ite ?_ ?_
      | refine LeO.bind ?_ (fun _ => ?_)
theorem bywashlaw16_Light.mono : ∀ a0 a1 k, LeO (bywashlaw16_Light.f k a0 a1) (bywashlaw16_Light.f (k + 1) a0 a1) := by
  intro a0 a1 k
  have ih0 := bywashlaw16_Light.mono_l k
  unfold bywashlaw16_Light.f
  repeat' first
      | (with_reducible exact ih0 _ _ _ _)
      | (with_reducible exact LeO.refl _)
      | (with_reducible exact LeO.none _)
      | (with_reducible refine LeO.ite ?_ ?_)
      | (with_reducible refine LeO.bind ?_ (fun _ => ?_))
      | exact ih0 _ _ _ _
      | exact LeO.none _
      | refine LeO.ite ?_ ?_
      | refine LeO.bind ?_ (fun _ => ?_)
set_option maxHeartbeats 8000000 in
set_option maxRecDepth 100000 in
theorem bywashlaw16_Light.calls (k : Nat) (a0 : Int) (A1 : Option Addr) (c1 : Nat) (l1 : List (S26)) (r : Bool) (w : World) (hr1 : Kd.C k26 w A1 l1.length l1) (hc1 : l1.length ≤ c1) (h : bywashlaw16_Light.f k a0 l1 = some r) :
    Calls Try.prog 7 #[.int .i64 a0, .slice A1 l1.length c1] w fun e w' => e = .returned (.bool r) ∧ Below w.heap.size w w' := by
  have hu26 := Try.underlying26
  have HR1 := Aside0.mk hr1
  have HC1 := Aside0.mk hc1
  clear hr1 hc1
  have HB := Aside0.mk (Below.refl w.heap.size w)
  have H : (bywashlaw16_Light.l0 k l1 l1 (l1.length : Int) 0) = some r := h
  clear h
  have H' := Aside0.mk H
  clear H
  go_enter Try.func7, Try.ntmps7
  go_wp2
  go_loopg [9] k (fun kq v9 w' => ∃ (x9_1 : Int), v9 = .int .i64 x9_1 ∧ Aside0 (bywashlaw16_Light.l0 kq l1 l1 (l1.length : Int) x9_1 = some r) ∧ Aside0 (kq ≤ k) ∧ Aside0 (Below w.heap.size w w'))
  case atStart => exact ⟨(0), (by first | rfl | (simp; done) | (simp [*]; done)), H', ⟨Nat.le_refl _⟩, ⟨by repeat (first | (with_reducible first | exact HB.out | apply below_alloc | apply pw_below_drewN | apply below_drew1) | exact HB.out)⟩⟩
  case round =>
    clear H'
    try clear c1
    try clear p2
    obtain ⟨x9_1, rfl, HA, HK1, HB⟩ := hrel
    cases gk with
    | zero => exact absurd HA.out (by simp [bywashlaw16_Light.l0])
    | succ k1 =>
      have H := HA.out
      clear HA
      simp only [bywashlaw16_Light.l0] at H
      by_cases c3 : x9_1 < (l1.length : Int)
      · rw [if_pos c3] at H
        have c3b0 : decide (x9_1 < (l1.length : Int)) = true := decide_eq_true c3
        clear c3
        by_cases c4 : 0 ≤ x9_1
        · rw [if_pos c4] at H
          have c4b0 : decide (0 ≤ x9_1) = true := decide_eq_true c4
          clear c4
          by_cases c5 : x9_1 < (l1.length : Int)
          · rw [if_pos c5] at H
            have c5b0 : decide (x9_1 < (l1.length : Int)) = true := decide_eq_true c5
            clear c5
            by_cases c6 : ((rd_T26 l1 x9_1).f2) > 4000
            · rw [if_pos c6] at H
              have c6b0 : decide (4000 < ((rd_T26 l1 x9_1).f2)) = true := decide_eq_true c6
              clear c6
              obtain rfl := Option.some.inj H
              have p101 : 0 ≤ (x9_1 : Int) := of_decide_eq_true (by first | (with_reducible assumption) | assumption)
              have q101 : x9_1 < (l1.length : Int) := of_decide_eq_true (by first | (with_reducible assumption) | assumption)
              obtain ⟨ad101, e101, hx101_0, hx101_1, hx101_2, hx101_3⟩ := at_T26 HR1.out x9_1 p101 q101
              cases e101
              replace hx101_0 := (HB.out.cell (World.block_lt_of_cell? w _ hx101_0)).trans hx101_0
              replace hx101_1 := (HB.out.cell (World.block_lt_of_cell? w _ hx101_1)).trans hx101_1
              replace hx101_2 := (HB.out.cell (World.block_lt_of_cell? w _ hx101_2)).trans hx101_2
              replace hx101_3 := (HB.out.cell (World.block_lt_of_cell? w _ hx101_3)).trans hx101_3
              replace p101 := eq_true p101
              replace q101 := eq_true q101
              go_wp2_with (first | ((with_reducible refine gate_dst (N := 6) rfl ?_); refine box_event ?hg (N := 6) ?hd (cs := #[.int .i64 0, .int .i64 0, .int .i64 0, .bool false]) (t := 26) ?hr ?_; (case hd => rfl); (case hg => rfl); (case hr => first | (go_simp; done) | (go_simp; rfl)); intro gb102 hg w7 hbox hb; have n0_ := Aside0.mk (below_step (by repeat (first | (with_reducible first | exact HB.out | apply below_alloc | apply pw_below_drewN | apply below_drew1) | exact HB.out)) hb); have n1_ := Aside0.mk (hbox); have n2_ := Aside0.mk ((by rw [hg]; exact (below_size (by repeat (first | (with_reducible first | exact HB.out | apply below_alloc | apply pw_below_drewN | apply below_drew1) | exact HB.out))) : w.heap.size ≤ gb102)); have n3_ := Aside0.mk ((by rw [hg]; exact (below_size (by repeat (first | (with_reducible first | exact HB.out | apply below_alloc | apply pw_below_drewN | apply below_drew1) | exact HB.out))) : w.heap.size ≤ gb102)); clear HB; have HB := n0_; have BK102 := n1_; have GW102 := n2_; have GE102 := n3_; clear n0_ n1_ n2_ n3_; clear hb hbox hg; have hcz8_0 : w7.cell? ⟨gb102, 0, none⟩ = some (.int .i64 0) := (blk_cell BK102.out 0).trans rfl; have hcz8_1 : w7.cell? ⟨gb102, 1, none⟩ = some (.int .i64 0) := (blk_cell BK102.out 1).trans rfl; have hcz8_2 : w7.cell? ⟨gb102, 2, none⟩ = some (.int .i64 0) := (blk_cell BK102.out 2).trans rfl; have hcz8_3 : w7.cell? ⟨gb102, 3, none⟩ = some (.bool false) := (blk_cell BK102.out 3).trans rfl; have hfz8_0 := blk_frozen BK102.out 0; have hfz8_1 := blk_frozen BK102.out 1; have hfz8_2 := blk_frozen BK102.out 2; have hfz8_3 := blk_frozen BK102.out 3))
              go_ret
              exact ⟨by first | rfl | (simp [errW_none, errW_some] <;> rfl) | (simp [*, errW_none, errW_some] <;> rfl), by repeat (first | (with_reducible first | exact HB.out | apply below_alloc | apply pw_below_drewN | apply below_drew1 | refine below_set ?_ GE102.out) | exact HB.out)⟩
            · rw [if_neg c6] at H
              have c6b0 : decide (4000 < ((rd_T26 l1 x9_1).f2)) = false := decide_eq_false c6
              clear c6
              have H' := Aside0.mk H
              clear H
              have p101 : 0 ≤ (x9_1 : Int) := of_decide_eq_true (by first | (with_reducible assumption) | assumption)
              have q101 : x9_1 < (l1.length : Int) := of_decide_eq_true (by first | (with_reducible assumption) | assumption)
              obtain ⟨ad101, e101, hx101_0, hx101_1, hx101_2, hx101_3⟩ := at_T26 HR1.out x9_1 p101 q101
              cases e101
              replace hx101_0 := (HB.out.cell (World.block_lt_of_cell? w _ hx101_0)).trans hx101_0
              replace hx101_1 := (HB.out.cell (World.block_lt_of_cell? w _ hx101_1)).trans hx101_1
              replace hx101_2 := (HB.out.cell (World.block_lt_of_cell? w _ hx101_2)).trans hx101_2
              replace hx101_3 := (HB.out.cell (World.block_lt_of_cell? w _ hx101_3)).trans hx101_3
              replace p101 := eq_true p101
              replace q101 := eq_true q101
              go_wp2_with (first | ((with_reducible refine gate_dst (N := 6) rfl ?_); refine box_event ?hg (N := 6) ?hd (cs := #[.int .i64 0, .int .i64 0, .int .i64 0, .bool false]) (t := 26) ?hr ?_; (case hd => rfl); (case hg => rfl); (case hr => first | (go_simp; done) | (go_simp; rfl)); intro gb102 hg w9 hbox hb; have n0_ := Aside0.mk (below_step (by repeat (first | (with_reducible first | exact HB.out | apply below_alloc | apply pw_below_drewN | apply below_drew1) | exact HB.out)) hb); have n1_ := Aside0.mk (hbox); have n2_ := Aside0.mk ((by rw [hg]; exact (below_size (by repeat (first | (with_reducible first | exact HB.out | apply below_alloc | apply pw_below_drewN | apply below_drew1) | exact HB.out))) : w.heap.size ≤ gb102)); have n3_ := Aside0.mk ((by rw [hg]; exact (below_size (by repeat (first | (with_reducible first | exact HB.out | apply below_alloc | apply pw_below_drewN | apply below_drew1) | exact HB.out))) : w.heap.size ≤ gb102)); clear HB; have HB := n0_; have BK102 := n1_; have GW102 := n2_; have GE102 := n3_; clear n0_ n1_ n2_ n3_; clear hb hbox hg; have hcz10_0 : w9.cell? ⟨gb102, 0, none⟩ = some (.int .i64 0) := (blk_cell BK102.out 0).trans rfl; have hcz10_1 : w9.cell? ⟨gb102, 1, none⟩ = some (.int .i64 0) := (blk_cell BK102.out 1).trans rfl; have hcz10_2 : w9.cell? ⟨gb102, 2, none⟩ = some (.int .i64 0) := (blk_cell BK102.out 2).trans rfl; have hcz10_3 : w9.cell? ⟨gb102, 3, none⟩ = some (.bool false) := (blk_cell BK102.out 3).trans rfl; have hfz10_0 := blk_frozen BK102.out 0; have hfz10_1 := blk_frozen BK102.out 1; have hfz10_2 := blk_frozen BK102.out 2; have hfz10_3 := blk_frozen BK102.out 3))
              go_roundg k1
              case measure => have := HK1.out; omega
              case rel => exact ⟨(wrap64 (x9_1 + 1)), (by first | rfl | (simp; done) | (simp [*]; done)), H', ⟨by have := HK1.out; omega⟩, ⟨by repeat (first | (with_reducible first | exact HB.out | apply below_alloc | apply pw_below_drewN | apply below_drew1 | refine below_set ?_ GE102.out) | exact HB.out)⟩⟩
          · rw [if_neg c5] at H
            exact absurd H (by simp)
        · rw [if_neg c4] at H
          exact absurd H (by simp)
      · rw [if_neg c3] at H
        have c3b0 : decide (x9_1 < (l1.length : Int)) = false := decide_eq_false c3
        clear c3
        obtain rfl := Option.some.inj H
        go_wp2
        go_ret
        exact ⟨by first | rfl | (simp [errW_none, errW_some] <;> rfl) | (simp [*, errW_none, errW_some] <;> rfl), by repeat (first | (with_reducible first | exact HB.out | apply below_alloc | apply pw_below_drewN | apply below_drew1) | exact HB.out)⟩

/-! ### pump_Plan: function 10 -/
mutual
def pump_Plan.l0 : Nat → Int → Int → List (S34) → List (S26) → Int → Int → Option ((List (S34)))
  | 0, _, _, _, _, _, _ => none
  | k + 1, x0, x1, x7, x11, x12, x13 => if x13 < x12 then (if 0 ≤ x13 then (if x13 < (x11.length : Int) then (if ((rd_T26 x11 x13).f2) = 0 then (pump_Plan.j1 k x0 x1 x7 x11 x12 x13 ((rd_T26 x11 x13).f3) ((rd_T26 x11 x13).f0) ((rd_T26 x11 x13).f1) ((rd_T26 x11 x13).f2) ((rd_T26 x11 x13).f3)) else (pump_Plan.j1 k x0 x1 x7 x11 x12 x13 false ((rd_T26 x11 x13).f0) ((rd_T26 x11 x13).f1) ((rd_T26 x11 x13).f2) ((rd_T26 x11 x13).f3))) else (none)) else (none)) else (some x7)
def pump_Plan.j1 : Nat → Int → Int → List (S34) → List (S26) → Int → Int → Bool → Int → Int → Int → Bool → Option ((List (S34)))
  | 0, _, _, _, _, _, _, _, _, _, _, _ => none
  | k + 1, x0, x1, x7, x11, x12, x13, x23, x105000, x105001, x105002, x105003 => if x23 = true then (if x7.length < 5864062014805 then (pump_Plan.j2 k x0 x1 (x7 ++ [(⟨x105000, 0, true⟩ : S34)]) x11 x12 x13 x105000 x105001 x105002 x105003) else (none)) else (pump_Plan.j2 k x0 x1 x7 x11 x12 x13 x105000 x105001 x105002 x105003)
def pump_Plan.j2 : Nat → Int → Int → List (S34) → List (S26) → Int → Int → Int → Int → Int → Bool → Option ((List (S34)))
  | 0, _, _, _, _, _, _, _, _, _, _ => none
  | k + 1, x0, x1, x7, x11, x12, x13, x105000, x105001, x105002, x105003 => pump_Plan.l1 k x0 x1 x7 (mn (mn (mn x105002 x105001) x0) x1) x11 x12 x13 x105000 x105001 x105002 x105003
def pump_Plan.l1 : Nat → Int → Int → List (S34) → Int → List (S26) → Int → Int → Int → Int → Int → Bool → Option ((List (S34)))
  | 0, _, _, _, _, _, _, _, _, _, _, _ => none
  | k + 1, x0, x1, x7, x10, x11, x12, x13, x105000, x105001, x105002, x105003 => if x10 > 0 then (if (wrap64 (x105002 - x10)) = 0 then (if x7.length < 5864062014805 then (pump_Plan.l1 k (wrap64 (x0 - x10)) x1 (x7 ++ [(⟨x105000, x10, x105003⟩ : S34)]) (mn (mn (mn (wrap64 (x105002 - x10)) (wrap64 (x105001 - x10))) (wrap64 (x0 - x10))) x1) x11 x12 x13 x105000 (wrap64 (x105001 - x10)) (wrap64 (x105002 - x10)) x105003) else (none)) else (if x7.length < 5864062014805 then (pump_Plan.l1 k (wrap64 (x0 - x10)) x1 (x7 ++ [(⟨x105000, x10, false⟩ : S34)]) (mn (mn (mn (wrap64 (x105002 - x10)) (wrap64 (x105001 - x10))) (wrap64 (x0 - x10))) x1) x11 x12 x13 x105000 (wrap64 (x105001 - x10)) (wrap64 (x105002 - x10)) x105003) else (none))) else (pump_Plan.l0 k x0 x1 x7 x11 x12 (wrap64 (x13 + 1)))
end
def pump_Plan.f (k : Nat) (a0 : Int) (a1 : Int) (l2 : List (S26)) : Option ((List (S34))) := pump_Plan.l0 k a0 a1 ([] : List (S34)) l2 (l2.length : Int) 0
theorem pump_Plan.mono_l : ∀ k, (∀ y0 y1 y2 y3 y4 y5, LeO (pump_Plan.l0 k y0 y1 y2 y3 y4 y5) (pump_Plan.l0 (k + 1) y0 y1 y2 y3 y4 y5)) ∧ (∀ y0 y1 y2 y3 y4 y5 y6 y7 y8 y9 y10, LeO (pump_Plan.j1 k y0 y1 y2 y3 y4 y5 y6 y7 y8 y9 y10) (pump_Plan.j1 (k + 1) y0 y1 y2 y3 y4 y5 y6 y7 y8 y9 y10)) ∧ (∀ y0 y1 y2 y3 y4 y5 y6 y7 y8 y9, LeO (pump_Plan.j2 k y0 y1 y2 y3 y4 y5 y6 y7 y8 y9) (pump_Plan.j2 (k + 1) y0 y1 y2 y3 y4 y5 y6 y7 y8 y9)) ∧ (∀ y0 y1 y2 y3 y4 y5 y6 y7 y8 y9 y10, LeO (pump_Plan.l1 k y0 y1 y2 y3 y4 y5 y6 y7 y8 y9 y10) (pump_Plan.l1 (k + 1) y0 y1 y2 y3 y4 y5 y6 y7 y8 y9 y10))
  | 0 => ⟨fun _ _ _ _ _ _ r h => by simp [pump_Plan.l0] at h, fun _ _ _ _ _ _ _ _ _ _ _ r h => by simp [pump_Plan.j1] at h, fun _ _ _ _ _ _ _ _ _ _ r h => by simp [pump_Plan.j2] at h, fun _ _ _ _ _ _ _ _ _ _ _ r h => by simp [pump_Plan.l1] at h⟩
  | k + 1 => by
    obtain ⟨ih0, ih1, ih2, ih3⟩ := pump_Plan.mono_l k
    refine ⟨?_, ?_, ?_, ?_⟩
    · intro y0 y1 y2 y3 y4 y5
      unfold pump_Plan.l0
      repeat' first
      | (with_reducible exact ih0 _ _ _ _ _ _)
      | (with_reducible exact ih1 _ _ _ _ _ _ _ _ _ _ _)
      | (with_reducible exact ih2 _ _ _ _ _ _ _ _ _ _)
      | (with_reducible exact ih3 _ _ _ _ _ _ _ _ _ _ _)
      | (with_reducible exact LeO.refl _)
      | (with_reducible exact LeO.none _)
      | (with_reducible refine LeO.ite ?_ ?_)
      | (with_reducible refine LeO.bind ?_ (fun _ => ?_))
      | exact ih0 _ _ _ _ _ _
      | exact ih1 _ _ _ _ _ _ _ _ _ _ _
      | exact ih2 _ _ _ _ _ _ _ _ _ _
      | exact ih3 _ _ _ _ _ _ _ _ _ _ _
      | exact LeO.none _
      | refine LeO.ite ?_ ?_
      | refine LeO.bind ?_ (fun _ => ?_)
    · intro y0 y1 y2 y3 y4 y5 y6 y7 y8 y9 y10
      unfold pump_Plan.j1
      repeat' first
      | (with_reducible exact ih0 _ _ _ _ _ _)
      | (with_reducible exact ih1 _ _ _ _ _ _ _ _ _ _ _)
      | (with_reducible exact ih2 _ _ _ _ _ _ _ _ _ _)
      | (with_reducible exact ih3 _ _ _ _ _ _ _ _ _ _ _)
      | (with_reducible exact LeO.refl _)
      | (with_reducible exact LeO.none _)
      | (with_reducible refine LeO.ite ?_ ?_)
      | (with_reducible refine LeO.bind ?_ (fun _ => ?_))
      | exact ih0 _ _ _ _ _ _
      | exact ih1 _ _ _ _ _ _ _ _ _ _ _
      | exact ih2 _ _ _ _ _ _ _ _ _ _
      | exact ih3 _ _ _ _ _ _ _ _ _ _ _
      | exact LeO.none _
      | refine LeO.ite ?_ ?_
      | refine LeO.bind ?_ (fun _ => ?_)
    · intro y0 y1 y2 y3 y4 y5 y6 y7 y8 y9
      unfold pump_Plan.j2
      repeat' first
      | (with_reducible exact ih0 _ _ _ _ _ _)
      | (with_reducible exact ih1 _ _ _ _ _ _ _ _ _ _ _)
      | (with_reducible exact ih2 _ _ _ _ _ _ _ _ _ _)
      | (with_reducible exact ih3 _ _ _ _ _ _ _ _ _ _ _)
      | (with_reducible exact LeO.refl _)
      | (with_reducible exact LeO.none _)
      | (with_reducible refine LeO.ite ?_ ?_)
      | (with_reducible refine LeO.bind ?_ (fun _ => ?_))
      | exact ih0 _ _ _ _ _ _
      | exact ih1 _ _ _ _ _ _ _ _ _ _ _
      | exact ih2 _ _ _ _ _ _ _ _ _ _
      | exact ih3 _ _ _ _ _ _ _ _ _ _ _
      | exact LeO.none _
      | refine LeO.ite ?_ ?_
      | refine LeO.bind ?_ (fun _ => ?_)
    · intro y0 y1 y2 y3 y4 y5 y6 y7 y8 y9 y10
      unfold pump_Plan.l1
      repeat' first
      | (with_reducible exact ih0 _ _ _ _ _ _)
      | (with_reducible exact ih1 _ _ _ _ _ _ _ _ _ _ _)
      | (with_reducible exact ih2 _ _ _ _ _ _ _ _ _ _)
      | (with_reducible exact ih3 _ _ _ _ _ _ _ _ _ _ _)
      | (with_reducible exact LeO.refl _)
      | (with_reducible exact LeO.none _)
      | (with_reducible refine LeO.ite ?_ ?_)
      | (with_reducible refine LeO.bind ?_ (fun _ => ?_))
      | exact ih0 _ _ _ _ _ _
      | exact ih1 _ _ _ _ _ _ _ _ _ _ _
      | exact ih2 _ _ _ _ _ _ _ _ _ _
      | exact ih3 _ _ _ _ _ _ _ _ _ _ _
      | exact LeO.none _
      | refine LeO.ite ?_ ?_
      | refine LeO.bind ?_ (fun _ => ?_)
theorem pump_Plan.mono : ∀ a0 a1 a2 k, LeO (pump_Plan.f k a0 a1 a2) (pump_Plan.f (k + 1) a0 a1 a2) := by
  intro a0 a1 a2 k
  obtain ⟨ih0, ih1, ih2, ih3⟩ := pump_Plan.mono_l k
  unfold pump_Plan.f
  repeat' first
      | (with_reducible exact ih0 _ _ _ _ _ _)
      | (with_reducible exact ih1 _ _ _ _ _ _ _ _ _ _ _)
      | (with_reducible exact ih2 _ _ _ _ _ _ _ _ _ _)
      | (with_reducible exact ih3 _ _ _ _ _ _ _ _ _ _ _)
      | (with_reducible exact LeO.refl _)
      | (with_reducible exact LeO.none _)
      | (with_reducible refine LeO.ite ?_ ?_)
      | (with_reducible refine LeO.bind ?_ (fun _ => ?_))
      | exact ih0 _ _ _ _ _ _
      | exact ih1 _ _ _ _ _ _ _ _ _ _ _
      | exact ih2 _ _ _ _ _ _ _ _ _ _
      | exact ih3 _ _ _ _ _ _ _ _ _ _ _
      | exact LeO.none _
      | refine LeO.ite ?_ ?_
      | refine LeO.bind ?_ (fun _ => ?_)
set_option maxHeartbeats 8000000 in
set_option maxRecDepth 100000 in
theorem pump_Plan.calls (k : Nat) (a0 : Int) (a1 : Int) (A2 : Option Addr) (c2 : Nat) (l2 : List (S26)) (r : List (S34)) (w : World) (hr2 : Kd.C k26 w A2 l2.length l2) (hc2 : l2.length ≤ c2) (h : pump_Plan.f k a0 a1 l2 = some r) :
    Calls Try.prog 10 #[.int .i64 a0, .int .i64 a1, .slice A2 l2.length c2] w fun e w' => ∃ v0_ : Value, e = .returned (v0_) ∧ Kd.R k34 34 w' w.heap.size (fun _ => True) v0_ r ∧ Below w.heap.size w w' := by
  have hu26 := Try.underlying26
  have hu34 := Try.underlying34
  have HR2 := Aside0.mk hr2
  have HC2 := Aside0.mk hc2
  clear hr2 hc2
  have HB := Aside0.mk (Below.refl w.heap.size w)
  have H : (pump_Plan.l0 k a0 a1 ([] : List (S34)) l2 (l2.length : Int) 0) = some r := h
  clear h
  have H' := Aside0.mk H
  clear H
  go_enter Try.func10, Try.ntmps10
  go_wp2
  go_loopg [0, 7, 13] k (fun kq v0 v7 v13 w' => ∃ (x0_1 : Int) (x7_1 : List (S34)) (x13_1 : Int), v0 = .int .i64 x0_1 ∧ v13 = .int .i64 x13_1 ∧ Aside0 (pump_Plan.l0 kq x0_1 a1 x7_1 l2 (l2.length : Int) x13_1 = some r) ∧ Aside0 (kq ≤ k) ∧ Aside0 (Kd.R k34 34 w' w.heap.size (fun _ => True) v7 x7_1) ∧ Aside0 (Below w.heap.size w w'))
  case atStart => exact ⟨(a0), (([] : List (S34))), (0), (by first | rfl | (simp; done) | (simp [*]; done)), (by first | rfl | (simp; done) | (simp [*]; done)), H', ⟨Nat.le_refl _⟩, ⟨by first | exact Kd.R_nil _ _ _ _ _ | exact Kd.N_nil _ _ _ _ _ | exact Kd.V_nil _ _ _ _ _ | exact Kd.Q_nil _ _ _ _ _ | exact Kd.S_nil _ _ _ _ _⟩, ⟨by repeat (first | (with_reducible first | exact HB.out | apply below_alloc | apply pw_below_drewN | apply below_drew1) | exact HB.out)⟩⟩
  case round =>
    clear H'
    try clear c1
    try clear c2
    try clear p2
    obtain ⟨x0_1, x7_1, x13_1, rfl, rfl, HA, HK1, HO_7, HB⟩ := hrel
    cases gk with
    | zero => exact absurd HA.out (by simp [pump_Plan.l0])
    | succ k1 =>
      have H := HA.out
      clear HA
      simp only [pump_Plan.l0] at H
      by_cases c4 : x13_1 < (l2.length : Int)
      · rw [if_pos c4] at H
        have c4b0 : decide (x13_1 < (l2.length : Int)) = true := decide_eq_true c4
        clear c4
        by_cases c5 : 0 ≤ x13_1
        · rw [if_pos c5] at H
          have c5b0 : decide (0 ≤ x13_1) = true := decide_eq_true c5
          clear c5
          by_cases c6 : x13_1 < (l2.length : Int)
          · rw [if_pos c6] at H
            have c6b0 : decide (x13_1 < (l2.length : Int)) = true := decide_eq_true c6
            clear c6
            have HC7 := Aside0.mk H
            clear H
            have p103 : 0 ≤ (x13_1 : Int) := of_decide_eq_true (by first | (with_reducible assumption) | assumption)
            have q103 : x13_1 < (l2.length : Int) := of_decide_eq_true (by first | (with_reducible assumption) | assumption)
            obtain ⟨ad103, e103, hx103_0, hx103_1, hx103_2, hx103_3⟩ := at_T26 HR2.out x13_1 p103 q103
            cases e103
            replace hx103_0 := (HB.out.cell (World.block_lt_of_cell? w _ hx103_0)).trans hx103_0
            replace hx103_1 := (HB.out.cell (World.block_lt_of_cell? w _ hx103_1)).trans hx103_1
            replace hx103_2 := (HB.out.cell (World.block_lt_of_cell? w _ hx103_2)).trans hx103_2
            replace hx103_3 := (HB.out.cell (World.block_lt_of_cell? w _ hx103_3)).trans hx103_3
            replace p103 := eq_true p103
            replace q103 := eq_true q103
            go_upto_region 5 with (first | ((with_reducible refine gate_dst (N := 9) rfl ?_); refine box_event ?hg (N := 9) ?hd (cs := #[.int .i64 0, .int .i64 0, .int .i64 0, .bool false]) (t := 26) ?hr ?_; (case hd => rfl); (case hg => rfl); (case hr => first | (go_simp; done) | (go_simp; rfl)); intro gb104 hg w8 hbox hb; have n0_ := Aside0.mk (Kd.R_below (by (with_reducible repeat (first | apply Kd.R_alloc | apply Kd.R_drewN | apply Kd.R_drew)); exact HO_7.out) hb); have n1_ := Aside0.mk (below_step (by repeat (first | (with_reducible first | exact HB.out | apply below_alloc | apply pw_below_drewN | apply below_drew1) | exact HB.out)) hb); have n2_ := Aside0.mk (hbox); have n3_ := Aside0.mk ((by rw [hg]; exact (below_size (by repeat (first | (with_reducible first | exact HB.out | apply below_alloc | apply pw_below_drewN | apply below_drew1) | exact HB.out))) : w.heap.size ≤ gb104)); have n4_ := Aside0.mk ((by rw [hg]; exact (below_size (by repeat (first | (with_reducible first | exact HB.out | apply below_alloc | apply pw_below_drewN | apply below_drew1) | exact HB.out))) : w.heap.size ≤ gb104)); clear HO_7; clear HB; have HO_7 := n0_; have HB := n1_; have BK104 := n2_; have GW104 := n3_; have GE104 := n4_; clear n0_ n1_ n2_ n3_ n4_; clear hb hbox hg; have hcz9_0 : w8.cell? ⟨gb104, 0, none⟩ = some (.int .i64 0) := (blk_cell BK104.out 0).trans rfl; have hcz9_1 : w8.cell? ⟨gb104, 1, none⟩ = some (.int .i64 0) := (blk_cell BK104.out 1).trans rfl; have hcz9_2 : w8.cell? ⟨gb104, 2, none⟩ = some (.int .i64 0) := (blk_cell BK104.out 2).trans rfl; have hcz9_3 : w8.cell? ⟨gb104, 3, none⟩ = some (.bool false) := (blk_cell BK104.out 3).trans rfl; have hfz9_0 := blk_frozen BK104.out 0; have hfz9_1 := blk_frozen BK104.out 1; have hfz9_2 := blk_frozen BK104.out 2; have hfz9_3 := blk_frozen BK104.out 3))
            (try simp only [Act.put, List.setIfInBounds_toArray, List.set_cons_zero, List.set_cons_succ])
            go_cut [23] (fun v23 wc => ∃ (kq : Nat) (x23_6 : Bool), v23 = .bool x23_6 ∧ Aside0 (pump_Plan.j1 kq x0_1 a1 x7_1 l2 (l2.length : Int) x13_1 x23_6 ((rd_T26 l2 x13_1).f0) ((rd_T26 l2 x13_1).f1) ((rd_T26 l2 x13_1).f2) ((rd_T26 l2 x13_1).f3) = some r) ∧ Aside0 (kq ≤ k1) ∧ Aside0 (Kd.R k34 34 wc w.heap.size (fun _ => True) u7 x7_1) ∧ Aside0 (wc.heap[gb104]? = some (.cells #[.int .i64 ((rd_T26 l2 x13_1).f0), .int .i64 ((rd_T26 l2 x13_1).f1), .int .i64 ((rd_T26 l2 x13_1).f2), .bool ((rd_T26 l2 x13_1).f3)] 26 (0, 0))) ∧ Aside0 (Below w.heap.size w wc))
            case first =>
              have H := HC7.out
              clear HC7
              by_cases c10 : ((rd_T26 l2 x13_1).f2) = 0
              · rw [if_pos c10] at H
                have c10b0 : (((rd_T26 l2 x13_1).f2) == 0) = true := beq_iff_eq.mpr c10
                have c10b1 : (((rd_T26 l2 x13_1).f2) != 0) = false := bne_eq_false_iff_eq.mpr c10
                clear c10
                (first | rw [c10b0] | (simp only [i64_w, i32_w]; rw [c10b0]) | skip)
                have H' := Aside0.mk H
                clear H
                have hcz11_0 : w8.cell? ⟨gb104, 0, none⟩ = some (.int .i64 0) := (blk_cell BK104.out 0).trans rfl
                have hcz11_1 : w8.cell? ⟨gb104, 1, none⟩ = some (.int .i64 0) := (blk_cell BK104.out 1).trans rfl
                have hcz11_2 : w8.cell? ⟨gb104, 2, none⟩ = some (.int .i64 0) := (blk_cell BK104.out 2).trans rfl
                have hcz11_3 : w8.cell? ⟨gb104, 3, none⟩ = some (.bool false) := (blk_cell BK104.out 3).trans rfl
                have hfz11_0 := blk_frozen BK104.out 0
                have hfz11_1 := blk_frozen BK104.out 1
                have hfz11_2 := blk_frozen BK104.out 2
                have hfz11_3 := blk_frozen BK104.out 3
                go_wp2
                go_meet
                case rel => exact ⟨_, ((rd_T26 l2 x13_1).f3), (by first | rfl | (simp; done) | (simp [*]; done)), H', ⟨by have := HK1.out; first | omega | exact Nat.le_refl _⟩, ⟨by (with_reducible repeat (first | apply Kd.R_alloc | apply Kd.R_drewN | apply Kd.R_drew)); exact Kd.R_mono (Kd.R_far (p := ⟨gb104, 3, none⟩) (Kd.R_far (p := ⟨gb104, 2, none⟩) (Kd.R_far (p := ⟨gb104, 1, none⟩) (Kd.R_far (p := ⟨gb104, 0, none⟩) (Kd.R_types HO_7.out BK104.out (by decide)) (fun _ hk => hk.2) (.int .i64 ((rd_T26 l2 x13_1).f0))) (fun _ hk => hk.2) (.int .i64 ((rd_T26 l2 x13_1).f1))) (fun _ hk => hk.2) (.int .i64 ((rd_T26 l2 x13_1).f2))) (fun _ hk => hk.2) (.bool ((rd_T26 l2 x13_1).f3))) (fun _ hk => trivial)⟩, ⟨by (with_reducible repeat (first | refine blk_drewN ?_ _ | refine blk_drew ?_ | refine blk_alloc ?_ _)); refine blk_put (cs := #[.int .i64 ((rd_T26 l2 x13_1).f0), .int .i64 ((rd_T26 l2 x13_1).f1), .int .i64 ((rd_T26 l2 x13_1).f2), .bool false]) ?_ 3 _ rfl; (with_reducible repeat (first | refine blk_drewN ?_ _ | refine blk_drew ?_ | refine blk_alloc ?_ _)); refine blk_put (cs := #[.int .i64 ((rd_T26 l2 x13_1).f0), .int .i64 ((rd_T26 l2 x13_1).f1), .int .i64 0, .bool false]) ?_ 2 _ rfl; (with_reducible repeat (first | refine blk_drewN ?_ _ | refine blk_drew ?_ | refine blk_alloc ?_ _)); refine blk_put (cs := #[.int .i64 ((rd_T26 l2 x13_1).f0), .int .i64 0, .int .i64 0, .bool false]) ?_ 1 _ rfl; (with_reducible repeat (first | refine blk_drewN ?_ _ | refine blk_drew ?_ | refine blk_alloc ?_ _)); refine blk_put (cs := #[.int .i64 0, .int .i64 0, .int .i64 0, .bool false]) ?_ 0 _ rfl; (with_reducible repeat (first | refine blk_drewN ?_ _ | refine blk_drew ?_ | refine blk_alloc ?_ _)); exact BK104.out⟩, ⟨by repeat (first | (with_reducible first | exact HB.out | apply below_alloc | apply pw_below_drewN | apply below_drew1 | refine below_set ?_ GE104.out) | exact HB.out)⟩⟩
              · rw [if_neg c10] at H
                have c10b0 : (((rd_T26 l2 x13_1).f2) == 0) = false := beq_eq_false_iff_ne.mpr c10
                have c10b1 : (((rd_T26 l2 x13_1).f2) != 0) = true := bne_iff_ne.mpr c10
                (first | rw [c10b0] | (simp only [i64_w, i32_w]; rw [c10b0]) | skip)
                have H' := Aside0.mk H
                clear H
                have hcz12_0 : w8.cell? ⟨gb104, 0, none⟩ = some (.int .i64 0) := (blk_cell BK104.out 0).trans rfl
                have hcz12_1 : w8.cell? ⟨gb104, 1, none⟩ = some (.int .i64 0) := (blk_cell BK104.out 1).trans rfl
                have hcz12_2 : w8.cell? ⟨gb104, 2, none⟩ = some (.int .i64 0) := (blk_cell BK104.out 2).trans rfl
                have hcz12_3 : w8.cell? ⟨gb104, 3, none⟩ = some (.bool false) := (blk_cell BK104.out 3).trans rfl
                have hfz12_0 := blk_frozen BK104.out 0
                have hfz12_1 := blk_frozen BK104.out 1
                have hfz12_2 := blk_frozen BK104.out 2
                have hfz12_3 := blk_frozen BK104.out 3
                go_wp2
                go_meet
                case rel => exact ⟨_, (false), (by first | rfl | (simp; done) | (simp [*]; done)), H', ⟨by have := HK1.out; first | omega | exact Nat.le_refl _⟩, ⟨by (with_reducible repeat (first | apply Kd.R_alloc | apply Kd.R_drewN | apply Kd.R_drew)); exact Kd.R_mono (Kd.R_far (p := ⟨gb104, 3, none⟩) (Kd.R_far (p := ⟨gb104, 2, none⟩) (Kd.R_far (p := ⟨gb104, 1, none⟩) (Kd.R_far (p := ⟨gb104, 0, none⟩) (Kd.R_types HO_7.out BK104.out (by decide)) (fun _ hk => hk.2) (.int .i64 ((rd_T26 l2 x13_1).f0))) (fun _ hk => hk.2) (.int .i64 ((rd_T26 l2 x13_1).f1))) (fun _ hk => hk.2) (.int .i64 ((rd_T26 l2 x13_1).f2))) (fun _ hk => hk.2) (.bool ((rd_T26 l2 x13_1).f3))) (fun _ hk => trivial)⟩, ⟨by (with_reducible repeat (first | refine blk_drewN ?_ _ | refine blk_drew ?_ | refine blk_alloc ?_ _)); refine blk_put (cs := #[.int .i64 ((rd_T26 l2 x13_1).f0), .int .i64 ((rd_T26 l2 x13_1).f1), .int .i64 ((rd_T26 l2 x13_1).f2), .bool false]) ?_ 3 _ rfl; (with_reducible repeat (first | refine blk_drewN ?_ _ | refine blk_drew ?_ | refine blk_alloc ?_ _)); refine blk_put (cs := #[.int .i64 ((rd_T26 l2 x13_1).f0), .int .i64 ((rd_T26 l2 x13_1).f1), .int .i64 0, .bool false]) ?_ 2 _ rfl; (with_reducible repeat (first | refine blk_drewN ?_ _ | refine blk_drew ?_ | refine blk_alloc ?_ _)); refine blk_put (cs := #[.int .i64 ((rd_T26 l2 x13_1).f0), .int .i64 0, .int .i64 0, .bool false]) ?_ 1 _ rfl; (with_reducible repeat (first | refine blk_drewN ?_ _ | refine blk_drew ?_ | refine blk_alloc ?_ _)); refine blk_put (cs := #[.int .i64 0, .int .i64 0, .int .i64 0, .bool false]) ?_ 0 _ rfl; (with_reducible repeat (first | refine blk_drewN ?_ _ | refine blk_drew ?_ | refine blk_alloc ?_ _)); exact BK104.out⟩, ⟨by repeat (first | (with_reducible first | exact HB.out | apply below_alloc | apply pw_below_drewN | apply below_drew1 | refine below_set ?_ GE104.out) | exact HB.out)⟩⟩
            case rest =>
              clear HC7
              try clear c1
              try clear p1
              try clear q1
              try clear hx1
              try clear c2
              try clear p2
              try clear c4
              try clear c4b0
              try clear c5
              try clear c5b0
              try clear c6
              try clear c6b0
              try clear c10
              try clear c10b0
              try clear c10b1
              try clear p10
              try clear q10
              try clear hx10
              try clear hcz11_0
              try clear hcz11_1
              try clear hcz11_2
              try clear hcz11_3
              try clear hcz12_0
              try clear hcz12_1
              try clear hcz12_2
              try clear hcz12_3
              try clear hcz9_0
              try clear hcz9_1
              try clear hcz9_2
              try clear hcz9_3
              try clear hfz11_0
              try clear hfz11_1
              try clear hfz11_2
              try clear hfz11_3
              try clear hfz12_0
              try clear hfz12_1
              try clear hfz12_2
              try clear hfz12_3
              try clear hfz9_0
              try clear hfz9_1
              try clear hfz9_2
              try clear hfz9_3
              try clear hx103_0
              try clear hx103_1
              try clear hx103_2
              try clear hx103_3
              try clear p103
              try clear p2
              try clear q103
              obtain ⟨kq, x23_6, rfl, HA, HJ6, HO_7, BK104, HB⟩ := hcut
              cases kq with
              | zero => exact absurd HA.out (by simp [pump_Plan.j1])
              | succ kj6 =>
                have H := HA.out
                clear HA
                simp only [pump_Plan.j1] at H
                have HC13 := Aside0.mk H
                clear H
                go_upto_if 23 with (fail)
                go_cut [7] (fun v7 wc => ∃ (kq : Nat) (x7_12 : List (S34)), Aside0 (pump_Plan.j2 kq x0_1 a1 x7_12 l2 (l2.length : Int) x13_1 ((rd_T26 l2 x13_1).f0) ((rd_T26 l2 x13_1).f1) ((rd_T26 l2 x13_1).f2) ((rd_T26 l2 x13_1).f3) = some r) ∧ Aside0 (kq ≤ kj6) ∧ Aside0 (Kd.R k34 34 wc w.heap.size (fun _ => True) v7 x7_12) ∧ Aside0 (wc.heap[gb104]? = some (.cells #[.int .i64 ((rd_T26 l2 x13_1).f0), .int .i64 ((rd_T26 l2 x13_1).f1), .int .i64 ((rd_T26 l2 x13_1).f2), .bool ((rd_T26 l2 x13_1).f3)] 26 (0, 0))) ∧ Aside0 (Below w.heap.size w wc))
                case first =>
                  have H := HC13.out
                  clear HC13
                  by_cases c14 : x23_6 = true
                  · subst c14
                    have H1 : (if x7_1.length < 5864062014805 then (pump_Plan.j2 kj6 x0_1 a1 (x7_1 ++ [(⟨((rd_T26 l2 x13_1).f0), 0, true⟩ : S34)]) l2 (l2.length : Int) x13_1 ((rd_T26 l2 x13_1).f0) ((rd_T26 l2 x13_1).f1) ((rd_T26 l2 x13_1).f2) ((rd_T26 l2 x13_1).f3)) else (none)) = some r := by rw [if_pos rfl] at H; exact H
                    clear H
                    have H := H1
                    clear H1
                    by_cases c15 : x7_1.length < 5864062014805
                    · rw [if_pos c15] at H
                      have LMc15 := Aside0.mk c15
                      clear c15
                      obtain ⟨y105, hy105⟩ : ∃ y_ : List (S34), y_ = (x7_1 ++ [(⟨((rd_T26 l2 x13_1).f0), 0, true⟩ : S34)]) := ⟨_, rfl⟩
                      replace H : (pump_Plan.j2 kj6 x0_1 a1 y105 l2 (l2.length : Int) x13_1 ((rd_T26 l2 x13_1).f0) ((rd_T26 l2 x13_1).f1) ((rd_T26 l2 x13_1).f2) ((rd_T26 l2 x13_1).f3)) = some r := by first | (rw [hy105]; with_reducible exact H) | (have H2_ := (Option.bind_some _ _).symm.trans H; rw [hy105]; with_reducible exact H2_) | (have H2_ := (Option.bind_some _ _).symm.trans H; with_reducible exact H2_) | with_reducible exact H | (rw [hy105]; exact H) | exact H
                      have Ny105 := Aside0.mk hy105
                      clear hy105
                      have H' := Aside0.mk H
                      clear H
                      have hcz16_0 : wc.cell? ⟨gb104, 0, none⟩ = some (.int .i64 ((rd_T26 l2 x13_1).f0)) := (blk_cell BK104.out 0).trans rfl
                      have hcz16_1 : wc.cell? ⟨gb104, 1, none⟩ = some (.int .i64 ((rd_T26 l2 x13_1).f1)) := (blk_cell BK104.out 1).trans rfl
                      have hcz16_2 : wc.cell? ⟨gb104, 2, none⟩ = some (.int .i64 ((rd_T26 l2 x13_1).f2)) := (blk_cell BK104.out 2).trans rfl
                      have hcz16_3 : wc.cell? ⟨gb104, 3, none⟩ = some (.bool ((rd_T26 l2 x13_1).f3)) := (blk_cell BK104.out 3).trans rfl
                      have hfz16_0 := blk_frozen BK104.out 0
                      have hfz16_1 := blk_frozen BK104.out 1
                      have hfz16_2 := blk_frozen BK104.out 2
                      have hfz16_3 := blk_frozen BK104.out 3
                      go_wp2_with (first | ((with_reducible refine gate_builtin (b := .append) (xs := #[(.tmp 24), (.tmp 28)]) rfl ?_); at_builtin; refine Kd.R_append k34 (w0 := w) w.heap.size rfl (.tmp 24) (.tmp 28) 31 34 (.agg #[(.int .i64 0), (.int .i64 0), (.bool false)]) 24 rfl Try.underlying31 info34 rfl (by decide) (by omega) u7 x7_1 (⟨((rd_T26 l2 x13_1).f0), 0, true⟩ : S34) [.int .i64 ((rd_T26 l2 x13_1).f0), .int .i64 0, .bool true] (fun _ => True) (fun _ => False) rfl rfl ?aP (fun _ hk => hk.elim) ?aF ?aO ?aB ?aS ?aL ?_; (case aP => exact k34_mkM _ _ _ (⟨((rd_T26 l2 x13_1).f0), 0, true⟩ : S34)); (case aB => exact (by repeat (first | (with_reducible first | exact HB.out | apply below_alloc | apply pw_below_drewN | apply below_drew1 | refine below_set ?_ GE104.out) | exact HB.out))); (case aF => exact (fun _ _ => trivial)); (case aO => exact (by (with_reducible repeat (first | apply Kd.R_alloc | apply Kd.R_drewN | apply Kd.R_drew)); exact HO_7.out)); (case aS => exact (below_size (by repeat (first | (with_reducible first | exact HB.out | apply below_alloc | apply pw_below_drewN | apply below_drew1 | refine below_set ?_ GE104.out) | exact HB.out)))); (case aL => have := LMc15.out; omega); intro v106 w17 ho hb hg hat; rw [← Ny105.out] at ho; have n0_ := Aside0.mk (blk_grown (g := gb104) (o := .cells #[.int .i64 ((rd_T26 l2 x13_1).f0), .int .i64 ((rd_T26 l2 x13_1).f1), .int .i64 ((rd_T26 l2 x13_1).f2), .bool ((rd_T26 l2 x13_1).f3)] 26 (0, 0)) (by (with_reducible repeat (first | refine blk_drewN ?_ _ | refine blk_drew ?_ | refine blk_alloc ?_ _)); exact BK104.out) hg (Kd.R_ne HO_7.out BK104.out (by decide))); have n1_ := Aside0.mk (hb); have n2_ := Aside0.mk (ho); clear BK104; clear HB; clear HO_7; have BK104 := n0_; have HB := n1_; have HO107 := n2_; clear n0_ n1_ n2_; clear ho hb hg hat))
                      go_meet
                      case rel => exact ⟨_, (y105), H', ⟨by have := HK1.out; have := HJ6.out; first | omega | exact Nat.le_refl _⟩, ⟨by (with_reducible repeat (first | apply Kd.R_alloc | apply Kd.R_drewN | apply Kd.R_drew)); exact HO107.out⟩, ⟨by (with_reducible repeat (first | refine blk_drewN ?_ _ | refine blk_drew ?_ | refine blk_alloc ?_ _)); exact BK104.out⟩, ⟨by repeat (first | (with_reducible first | exact HB.out | apply below_alloc | apply pw_below_drewN | apply below_drew1 | refine below_set ?_ GE104.out) | exact HB.out)⟩⟩
                    · rw [if_neg c15] at H
                      exact absurd H (by simp)
                  · replace c14 := Bool.eq_false_iff.mpr c14
                    subst c14
                    have H1 : (pump_Plan.j2 kj6 x0_1 a1 x7_1 l2 (l2.length : Int) x13_1 ((rd_T26 l2 x13_1).f0) ((rd_T26 l2 x13_1).f1) ((rd_T26 l2 x13_1).f2) ((rd_T26 l2 x13_1).f3)) = some r := by rw [if_neg (show ¬ (false = true) by decide)] at H; exact H
                    clear H
                    have H := H1
                    clear H1
                    have H' := Aside0.mk H
                    clear H
                    go_wp2
                    go_meet
                    case rel => exact ⟨_, (x7_1), H', ⟨by have := HK1.out; have := HJ6.out; first | omega | exact Nat.le_refl _⟩, ⟨by (with_reducible repeat (first | apply Kd.R_alloc | apply Kd.R_drewN | apply Kd.R_drew)); exact HO_7.out⟩, ⟨by (with_reducible repeat (first | refine blk_drewN ?_ _ | refine blk_drew ?_ | refine blk_alloc ?_ _)); exact BK104.out⟩, ⟨by repeat (first | (with_reducible first | exact HB.out | apply below_alloc | apply pw_below_drewN | apply below_drew1 | refine below_set ?_ GE104.out) | exact HB.out)⟩⟩
                case rest =>
                  clear HC13
                  try clear c1
                  try clear p1
                  try clear q1
                  try clear hx1
                  try clear c2
                  try clear p2
                  try clear c4
                  try clear c4b0
                  try clear c5
                  try clear c5b0
                  try clear c6
                  try clear c6b0
                  try clear c10
                  try clear c10b0
                  try clear c10b1
                  try clear p10
                  try clear q10
                  try clear hx10
                  try clear c14
                  try clear c15
                  try clear hcz11_0
                  try clear hcz11_1
                  try clear hcz11_2
                  try clear hcz11_3
                  try clear hcz12_0
                  try clear hcz12_1
                  try clear hcz12_2
                  try clear hcz12_3
                  try clear hcz16_0
                  try clear hcz16_1
                  try clear hcz16_2
                  try clear hcz16_3
                  try clear hcz9_0
                  try clear hcz9_1
                  try clear hcz9_2
                  try clear hcz9_3
                  try clear hfz11_0
                  try clear hfz11_1
                  try clear hfz11_2
                  try clear hfz11_3
                  try clear hfz12_0
                  try clear hfz12_1
                  try clear hfz12_2
                  try clear hfz12_3
                  try clear hfz16_0
                  try clear hfz16_1
                  try clear hfz16_2
                  try clear hfz16_3
                  try clear hfz9_0
                  try clear hfz9_1
                  try clear hfz9_2
                  try clear hfz9_3
                  try clear hx103_0
                  try clear hx103_1
                  try clear hx103_2
                  try clear hx103_3
                  try clear p1
                  try clear p10
                  try clear p103
                  try clear p2
                  try clear q1
                  try clear q10
                  try clear q103
                  obtain ⟨kq, x7_12, HA, HJ12, HO_7, BK104, HB⟩ := hcut
                  cases kq with
                  | zero => exact absurd HA.out (by simp [pump_Plan.j2])
                  | succ kj12 =>
                    have H := HA.out
                    clear HA
                    simp only [pump_Plan.j2] at H
                    obtain ⟨ji18, hji18⟩ : ∃ j_ : Int, (mn ((rd_T26 l2 x13_1).f2) ((rd_T26 l2 x13_1).f1)) = j_ := ⟨_, rfl⟩
                    replace H : (pump_Plan.l1 kj12 x0_1 a1 x7_12 (mn (mn (ji18) x0_1) a1) l2 (l2.length : Int) x13_1 ((rd_T26 l2 x13_1).f0) ((rd_T26 l2 x13_1).f1) ((rd_T26 l2 x13_1).f2) ((rd_T26 l2 x13_1).f3)) = some r := by first | (rw [hji18] at H; exact H) | (simp only [hji18] at H ⊢; exact H)
                    have hji18_ : (if ((rd_T26 l2 x13_1).f1) < ((rd_T26 l2 x13_1).f2) then ((rd_T26 l2 x13_1).f1) else ((rd_T26 l2 x13_1).f2)) = ji18 := hji18
                    obtain ⟨ji19, hji19⟩ : ∃ j_ : Int, (mn (ji18) x0_1) = j_ := ⟨_, rfl⟩
                    replace H : (pump_Plan.l1 kj12 x0_1 a1 x7_12 (mn (ji19) a1) l2 (l2.length : Int) x13_1 ((rd_T26 l2 x13_1).f0) ((rd_T26 l2 x13_1).f1) ((rd_T26 l2 x13_1).f2) ((rd_T26 l2 x13_1).f3)) = some r := by first | (rw [hji19] at H; exact H) | (simp only [hji19] at H ⊢; exact H)
                    have hji19_ : (if x0_1 < (ji18) then x0_1 else (ji18)) = ji19 := hji19
                    obtain ⟨ji20, hji20⟩ : ∃ j_ : Int, (mn (ji19) a1) = j_ := ⟨_, rfl⟩
                    replace H : (pump_Plan.l1 kj12 x0_1 a1 x7_12 ji20 l2 (l2.length : Int) x13_1 ((rd_T26 l2 x13_1).f0) ((rd_T26 l2 x13_1).f1) ((rd_T26 l2 x13_1).f2) ((rd_T26 l2 x13_1).f3)) = some r := by first | (rw [hji20] at H; exact H) | (simp only [hji20] at H ⊢; exact H)
                    have hji20_ : (if a1 < (ji19) then a1 else (ji19)) = ji20 := hji20
                    have H' := Aside0.mk H
                    clear H
                    have hcz21_0 : wc.cell? ⟨gb104, 0, none⟩ = some (.int .i64 ((rd_T26 l2 x13_1).f0)) := (blk_cell BK104.out 0).trans rfl
                    have hcz21_1 : wc.cell? ⟨gb104, 1, none⟩ = some (.int .i64 ((rd_T26 l2 x13_1).f1)) := (blk_cell BK104.out 1).trans rfl
                    have hcz21_2 : wc.cell? ⟨gb104, 2, none⟩ = some (.int .i64 ((rd_T26 l2 x13_1).f2)) := (blk_cell BK104.out 2).trans rfl
                    have hcz21_3 : wc.cell? ⟨gb104, 3, none⟩ = some (.bool ((rd_T26 l2 x13_1).f3)) := (blk_cell BK104.out 3).trans rfl
                    have hfz21_0 := blk_frozen BK104.out 0
                    have hfz21_1 := blk_frozen BK104.out 1
                    have hfz21_2 := blk_frozen BK104.out 2
                    have hfz21_3 := blk_frozen BK104.out 3
                    go_wp2
                    go_loopg [0, 7, 10] kj12 (fun kq v0 v7 v10 w' => ∃ (x0_4 : Int) (x7_4 : List (S34)) (x10_4 : Int) (x105001_4 : Int) (x105002_4 : Int), v0 = .int .i64 x0_4 ∧ v10 = .int .i64 x10_4 ∧ Aside0 (pump_Plan.l1 kq x0_4 a1 x7_4 x10_4 l2 (l2.length : Int) x13_1 ((rd_T26 l2 x13_1).f0) x105001_4 x105002_4 ((rd_T26 l2 x13_1).f3) = some r) ∧ Aside0 (kq ≤ kj12) ∧ Aside0 (Kd.R k34 34 w' w.heap.size (fun _ => True) v7 x7_4) ∧ Aside0 (w'.heap[gb104]? = some (.cells #[.int .i64 ((rd_T26 l2 x13_1).f0), .int .i64 x105001_4, .int .i64 x105002_4, .bool ((rd_T26 l2 x13_1).f3)] 26 (0, 0))) ∧ Aside0 (Below w.heap.size w w'))
                    case atStart => exact ⟨(x0_1), (x7_12), (ji20), (((rd_T26 l2 x13_1).f1)), (((rd_T26 l2 x13_1).f2)), (by first | rfl | (simp; done) | (simp [*]; done)), (by first | rfl | (simp; done) | (simp only [← hji20] <;> (first | rfl | simp)) | (simp [*]; done)), H', ⟨Nat.le_refl _⟩, ⟨by (with_reducible repeat (first | apply Kd.R_alloc | apply Kd.R_drewN | apply Kd.R_drew)); exact HO_7.out⟩, ⟨by (with_reducible repeat (first | refine blk_drewN ?_ _ | refine blk_drew ?_ | refine blk_alloc ?_ _)); exact BK104.out⟩, ⟨by repeat (first | (with_reducible first | exact HB.out | apply below_alloc | apply pw_below_drewN | apply below_drew1 | refine below_set ?_ GE104.out) | exact HB.out)⟩⟩
                    case round =>
                      clear H'
                      try clear c1
                      try clear p1
                      try clear q1
                      try clear hx1
                      try clear c2
                      try clear p2
                      try clear c4
                      try clear c4b0
                      try clear c5
                      try clear c5b0
                      try clear c6
                      try clear c6b0
                      try clear c10
                      try clear c10b0
                      try clear c10b1
                      try clear p10
                      try clear q10
                      try clear hx10
                      try clear c14
                      try clear c15
                      try clear hcz11_0
                      try clear hcz11_1
                      try clear hcz11_2
                      try clear hcz11_3
                      try clear hcz12_0
                      try clear hcz12_1
                      try clear hcz12_2
                      try clear hcz12_3
                      try clear hcz16_0
                      try clear hcz16_1
                      try clear hcz16_2
                      try clear hcz16_3
                      try clear hcz21_0
                      try clear hcz21_1
                      try clear hcz21_2
                      try clear hcz21_3
                      try clear hcz9_0
                      try clear hcz9_1
                      try clear hcz9_2
                      try clear hcz9_3
                      try clear hfz11_0
                      try clear hfz11_1
                      try clear hfz11_2
                      try clear hfz11_3
                      try clear hfz12_0
                      try clear hfz12_1
                      try clear hfz12_2
                      try clear hfz12_3
                      try clear hfz16_0
                      try clear hfz16_1
                      try clear hfz16_2
                      try clear hfz16_3
                      try clear hfz21_0
                      try clear hfz21_1
                      try clear hfz21_2
                      try clear hfz21_3
                      try clear hfz9_0
                      try clear hfz9_1
                      try clear hfz9_2
                      try clear hfz9_3
                      try clear hx103_0
                      try clear hx103_1
                      try clear hx103_2
                      try clear hx103_3
                      try clear p1
                      try clear p10
                      try clear p103
                      try clear p2
                      try clear q1
                      try clear q10
                      try clear q103
                      obtain ⟨x0_4, x7_4, x10_4, x105001_4, x105002_4, rfl, rfl, HA, HK4, HO_7, BK104, HB⟩ := hrel
                      cases gk with
                      | zero => exact absurd HA.out (by simp [pump_Plan.l1])
                      | succ k4 =>
                        have H := HA.out
                        clear HA
                        simp only [pump_Plan.l1] at H
                        by_cases c22 : x10_4 > 0
                        · rw [if_pos c22] at H
                          have c22b0 : decide (0 < x10_4) = true := decide_eq_true c22
                          clear c22
                          by_cases c23 : (wrap64 (x105002_4 - x10_4)) = 0
                          · rw [if_pos c23] at H
                            have c23b0 : ((wrap64 (x105002_4 - x10_4)) == 0) = true := beq_iff_eq.mpr c23
                            have c23b1 : ((wrap64 (x105002_4 - x10_4)) != 0) = false := bne_eq_false_iff_eq.mpr c23
                            clear c23
                            by_cases c24 : x7_4.length < 5864062014805
                            · rw [if_pos c24] at H
                              have LMc24 := Aside0.mk c24
                              clear c24
                              obtain ⟨y108, hy108⟩ : ∃ y_ : List (S34), y_ = (x7_4 ++ [(⟨((rd_T26 l2 x13_1).f0), x10_4, ((rd_T26 l2 x13_1).f3)⟩ : S34)]) := ⟨_, rfl⟩
                              replace H : (pump_Plan.l1 k4 (wrap64 (x0_4 - x10_4)) a1 y108 (mn (mn (mn (wrap64 (x105002_4 - x10_4)) (wrap64 (x105001_4 - x10_4))) (wrap64 (x0_4 - x10_4))) a1) l2 (l2.length : Int) x13_1 ((rd_T26 l2 x13_1).f0) (wrap64 (x105001_4 - x10_4)) (wrap64 (x105002_4 - x10_4)) ((rd_T26 l2 x13_1).f3)) = some r := by first | (rw [hy108]; with_reducible exact H) | (have H2_ := (Option.bind_some _ _).symm.trans H; rw [hy108]; with_reducible exact H2_) | (have H2_ := (Option.bind_some _ _).symm.trans H; with_reducible exact H2_) | with_reducible exact H | (rw [hy108]; exact H) | exact H
                              have Ny108 := Aside0.mk hy108
                              clear hy108
                              obtain ⟨ji25, hji25⟩ : ∃ j_ : Int, (mn (wrap64 (x105002_4 - x10_4)) (wrap64 (x105001_4 - x10_4))) = j_ := ⟨_, rfl⟩
                              replace H : (pump_Plan.l1 k4 (wrap64 (x0_4 - x10_4)) a1 y108 (mn (mn (ji25) (wrap64 (x0_4 - x10_4))) a1) l2 (l2.length : Int) x13_1 ((rd_T26 l2 x13_1).f0) (wrap64 (x105001_4 - x10_4)) (wrap64 (x105002_4 - x10_4)) ((rd_T26 l2 x13_1).f3)) = some r := by first | (rw [hji25] at H; exact H) | (simp only [hji25] at H ⊢; exact H)
                              have hji25_ : (if (wrap64 (x105001_4 - x10_4)) < (wrap64 (x105002_4 - x10_4)) then (wrap64 (x105001_4 - x10_4)) else (wrap64 (x105002_4 - x10_4))) = ji25 := hji25
                              obtain ⟨ji26, hji26⟩ : ∃ j_ : Int, (mn (ji25) (wrap64 (x0_4 - x10_4))) = j_ := ⟨_, rfl⟩
                              replace H : (pump_Plan.l1 k4 (wrap64 (x0_4 - x10_4)) a1 y108 (mn (ji26) a1) l2 (l2.length : Int) x13_1 ((rd_T26 l2 x13_1).f0) (wrap64 (x105001_4 - x10_4)) (wrap64 (x105002_4 - x10_4)) ((rd_T26 l2 x13_1).f3)) = some r := by first | (rw [hji26] at H; exact H) | (simp only [hji26] at H ⊢; exact H)
                              have hji26_ : (if (wrap64 (x0_4 - x10_4)) < (ji25) then (wrap64 (x0_4 - x10_4)) else (ji25)) = ji26 := hji26
                              obtain ⟨ji27, hji27⟩ : ∃ j_ : Int, (mn (ji26) a1) = j_ := ⟨_, rfl⟩
                              replace H : (pump_Plan.l1 k4 (wrap64 (x0_4 - x10_4)) a1 y108 ji27 l2 (l2.length : Int) x13_1 ((rd_T26 l2 x13_1).f0) (wrap64 (x105001_4 - x10_4)) (wrap64 (x105002_4 - x10_4)) ((rd_T26 l2 x13_1).f3)) = some r := by first | (rw [hji27] at H; exact H) | (simp only [hji27] at H ⊢; exact H)
                              have hji27_ : (if a1 < (ji26) then a1 else (ji26)) = ji27 := hji27
                              have H' := Aside0.mk H
                              clear H
                              have hcz28_0 : wr.cell? ⟨gb104, 0, none⟩ = some (.int .i64 ((rd_T26 l2 x13_1).f0)) := (blk_cell BK104.out 0).trans rfl
                              have hcz28_1 : wr.cell? ⟨gb104, 1, none⟩ = some (.int .i64 x105001_4) := (blk_cell BK104.out 1).trans rfl
                              have hcz28_2 : wr.cell? ⟨gb104, 2, none⟩ = some (.int .i64 x105002_4) := (blk_cell BK104.out 2).trans rfl
                              have hcz28_3 : wr.cell? ⟨gb104, 3, none⟩ = some (.bool ((rd_T26 l2 x13_1).f3)) := (blk_cell BK104.out 3).trans rfl
                              have hfz28_0 := blk_frozen BK104.out 0
                              have hfz28_1 := blk_frozen BK104.out 1
                              have hfz28_2 := blk_frozen BK104.out 2
                              have hfz28_3 := blk_frozen BK104.out 3
                              go_wp2_with (first | ((with_reducible refine gate_builtin (b := .append) (xs := #[(.tmp 59), (.tmp 71)]) rfl ?_); at_builtin; refine Kd.R_append k34 (w0 := w) w.heap.size rfl (.tmp 59) (.tmp 71) 31 34 (.agg #[(.int .i64 0), (.int .i64 0), (.bool false)]) 24 rfl Try.underlying31 info34 rfl (by decide) (by omega) u7 x7_4 (⟨((rd_T26 l2 x13_1).f0), x10_4, ((rd_T26 l2 x13_1).f3)⟩ : S34) [.int .i64 ((rd_T26 l2 x13_1).f0), .int .i64 x10_4, .bool ((rd_T26 l2 x13_1).f3)] (fun _ => True) (fun _ => False) rfl (by first | (go_simp; done) | (go_simp; rfl)) ?aP (fun _ hk => hk.elim) ?aF ?aO ?aB ?aS ?aL ?_; (case aP => exact k34_mkM _ _ _ (⟨((rd_T26 l2 x13_1).f0), x10_4, ((rd_T26 l2 x13_1).f3)⟩ : S34)); (case aB => exact (by repeat (first | (with_reducible first | exact HB.out | apply below_alloc | apply pw_below_drewN | apply below_drew1 | refine below_set ?_ GE104.out) | exact HB.out))); (case aF => exact (fun _ _ => trivial)); (case aO => exact (by (with_reducible repeat (first | apply Kd.R_alloc | apply Kd.R_drewN | apply Kd.R_drew)); exact Kd.R_mono (Kd.R_far (p := ⟨gb104, 1, none⟩) (Kd.R_far (p := ⟨gb104, 2, none⟩) (Kd.R_types HO_7.out BK104.out (by decide)) (fun _ hk => hk.2) (.int .i64 (wrap64 (x105002_4 - x10_4)))) (fun _ hk => hk.2) (.int .i64 (wrap64 (x105001_4 - x10_4)))) (fun _ hk => trivial))); (case aS => exact (below_size (by repeat (first | (with_reducible first | exact HB.out | apply below_alloc | apply pw_below_drewN | apply below_drew1 | refine below_set ?_ GE104.out) | exact HB.out)))); (case aL => have := LMc24.out; omega); intro v109 w29 ho hb hg hat; rw [← Ny108.out] at ho; have n0_ := Aside0.mk (blk_grown (g := gb104) (o := .cells #[.int .i64 ((rd_T26 l2 x13_1).f0), .int .i64 (wrap64 (x105001_4 - x10_4)), .int .i64 (wrap64 (x105002_4 - x10_4)), .bool ((rd_T26 l2 x13_1).f3)] 26 (0, 0)) (by (with_reducible repeat (first | refine blk_drewN ?_ _ | refine blk_drew ?_ | refine blk_alloc ?_ _)); refine blk_put (cs := #[.int .i64 ((rd_T26 l2 x13_1).f0), .int .i64 x105001_4, .int .i64 (wrap64 (x105002_4 - x10_4)), .bool ((rd_T26 l2 x13_1).f3)]) ?_ 1 _ rfl; (with_reducible repeat (first | refine blk_drewN ?_ _ | refine blk_drew ?_ | refine blk_alloc ?_ _)); refine blk_put (cs := #[.int .i64 ((rd_T26 l2 x13_1).f0), .int .i64 x105001_4, .int .i64 x105002_4, .bool ((rd_T26 l2 x13_1).f3)]) ?_ 2 _ rfl; (with_reducible repeat (first | refine blk_drewN ?_ _ | refine blk_drew ?_ | refine blk_alloc ?_ _)); exact BK104.out) hg (Kd.R_ne HO_7.out BK104.out (by decide))); have n1_ := Aside0.mk (hb); have n2_ := Aside0.mk (ho); clear BK104; clear HB; clear HO_7; have BK104 := n0_; have HB := n1_; have HO110 := n2_; clear n0_ n1_ n2_; clear ho hb hg hat; have hcz30_0 : w29.cell? ⟨gb104, 0, none⟩ = some (.int .i64 ((rd_T26 l2 x13_1).f0)) := (blk_cell BK104.out 0).trans rfl; have hcz30_1 : w29.cell? ⟨gb104, 1, none⟩ = some (.int .i64 (wrap64 (x105001_4 - x10_4))) := (blk_cell BK104.out 1).trans rfl; have hcz30_2 : w29.cell? ⟨gb104, 2, none⟩ = some (.int .i64 (wrap64 (x105002_4 - x10_4))) := (blk_cell BK104.out 2).trans rfl; have hcz30_3 : w29.cell? ⟨gb104, 3, none⟩ = some (.bool ((rd_T26 l2 x13_1).f3)) := (blk_cell BK104.out 3).trans rfl; have hfz30_0 := blk_frozen BK104.out 0; have hfz30_1 := blk_frozen BK104.out 1; have hfz30_2 := blk_frozen BK104.out 2; have hfz30_3 := blk_frozen BK104.out 3))
                              go_roundg k4
                              case measure => have := HK1.out; have := HJ6.out; have := HJ12.out; have := HK4.out; omega
                              case rel => exact ⟨(wrap64 (x0_4 - x10_4)), (y108), (ji27), (wrap64 (x105001_4 - x10_4)), (wrap64 (x105002_4 - x10_4)), (by first | rfl | (simp; done) | (simp [*]; done)), (by first | rfl | (simp; done) | (simp only [← hji27] <;> (first | rfl | simp)) | (simp [*]; done)), H', ⟨by have := HK1.out; have := HJ6.out; have := HJ12.out; have := HK4.out; omega⟩, ⟨by (with_reducible repeat (first | apply Kd.R_alloc | apply Kd.R_drewN | apply Kd.R_drew)); exact HO110.out⟩, ⟨by (with_reducible repeat (first | refine blk_drewN ?_ _ | refine blk_drew ?_ | refine blk_alloc ?_ _)); exact BK104.out⟩, ⟨by repeat (first | (with_reducible first | exact HB.out | apply below_alloc | apply pw_below_drewN | apply below_drew1 | refine below_set ?_ GE104.out) | exact HB.out)⟩⟩
                            · rw [if_neg c24] at H
                              exact absurd H (by simp)
                          · rw [if_neg c23] at H
                            have c23b0 : ((wrap64 (x105002_4 - x10_4)) == 0) = false := beq_eq_false_iff_ne.mpr c23
                            have c23b1 : ((wrap64 (x105002_4 - x10_4)) != 0) = true := bne_iff_ne.mpr c23
                            by_cases c31 : x7_4.length < 5864062014805
                            · rw [if_pos c31] at H
                              have LMc31 := Aside0.mk c31
                              clear c31
                              obtain ⟨y111, hy111⟩ : ∃ y_ : List (S34), y_ = (x7_4 ++ [(⟨((rd_T26 l2 x13_1).f0), x10_4, false⟩ : S34)]) := ⟨_, rfl⟩
                              replace H : (pump_Plan.l1 k4 (wrap64 (x0_4 - x10_4)) a1 y111 (mn (mn (mn (wrap64 (x105002_4 - x10_4)) (wrap64 (x105001_4 - x10_4))) (wrap64 (x0_4 - x10_4))) a1) l2 (l2.length : Int) x13_1 ((rd_T26 l2 x13_1).f0) (wrap64 (x105001_4 - x10_4)) (wrap64 (x105002_4 - x10_4)) ((rd_T26 l2 x13_1).f3)) = some r := by first | (rw [hy111]; with_reducible exact H) | (have H2_ := (Option.bind_some _ _).symm.trans H; rw [hy111]; with_reducible exact H2_) | (have H2_ := (Option.bind_some _ _).symm.trans H; with_reducible exact H2_) | with_reducible exact H | (rw [hy111]; exact H) | exact H
                              have Ny111 := Aside0.mk hy111
                              clear hy111
                              obtain ⟨ji32, hji32⟩ : ∃ j_ : Int, (mn (wrap64 (x105002_4 - x10_4)) (wrap64 (x105001_4 - x10_4))) = j_ := ⟨_, rfl⟩
                              replace H : (pump_Plan.l1 k4 (wrap64 (x0_4 - x10_4)) a1 y111 (mn (mn (ji32) (wrap64 (x0_4 - x10_4))) a1) l2 (l2.length : Int) x13_1 ((rd_T26 l2 x13_1).f0) (wrap64 (x105001_4 - x10_4)) (wrap64 (x105002_4 - x10_4)) ((rd_T26 l2 x13_1).f3)) = some r := by first | (rw [hji32] at H; exact H) | (simp only [hji32] at H ⊢; exact H)
                              have hji32_ : (if (wrap64 (x105001_4 - x10_4)) < (wrap64 (x105002_4 - x10_4)) then (wrap64 (x105001_4 - x10_4)) else (wrap64 (x105002_4 - x10_4))) = ji32 := hji32
                              obtain ⟨ji33, hji33⟩ : ∃ j_ : Int, (mn (ji32) (wrap64 (x0_4 - x10_4))) = j_ := ⟨_, rfl⟩
                              replace H : (pump_Plan.l1 k4 (wrap64 (x0_4 - x10_4)) a1 y111 (mn (ji33) a1) l2 (l2.length : Int) x13_1 ((rd_T26 l2 x13_1).f0) (wrap64 (x105001_4 - x10_4)) (wrap64 (x105002_4 - x10_4)) ((rd_T26 l2 x13_1).f3)) = some r := by first | (rw [hji33] at H; exact H) | (simp only [hji33] at H ⊢; exact H)
                              have hji33_ : (if (wrap64 (x0_4 - x10_4)) < (ji32) then (wrap64 (x0_4 - x10_4)) else (ji32)) = ji33 := hji33
                              obtain ⟨ji34, hji34⟩ : ∃ j_ : Int, (mn (ji33) a1) = j_ := ⟨_, rfl⟩
                              replace H : (pump_Plan.l1 k4 (wrap64 (x0_4 - x10_4)) a1 y111 ji34 l2 (l2.length : Int) x13_1 ((rd_T26 l2 x13_1).f0) (wrap64 (x105001_4 - x10_4)) (wrap64 (x105002_4 - x10_4)) ((rd_T26 l2 x13_1).f3)) = some r := by first | (rw [hji34] at H; exact H) | (simp only [hji34] at H ⊢; exact H)
                              have hji34_ : (if a1 < (ji33) then a1 else (ji33)) = ji34 := hji34
                              have H' := Aside0.mk H
                              clear H
                              have hcz35_0 : wr.cell? ⟨gb104, 0, none⟩ = some (.int .i64 ((rd_T26 l2 x13_1).f0)) := (blk_cell BK104.out 0).trans rfl
                              have hcz35_1 : wr.cell? ⟨gb104, 1, none⟩ = some (.int .i64 x105001_4) := (blk_cell BK104.out 1).trans rfl
                              have hcz35_2 : wr.cell? ⟨gb104, 2, none⟩ = some (.int .i64 x105002_4) := (blk_cell BK104.out 2).trans rfl
                              have hcz35_3 : wr.cell? ⟨gb104, 3, none⟩ = some (.bool ((rd_T26 l2 x13_1).f3)) := (blk_cell BK104.out 3).trans rfl
                              have hfz35_0 := blk_frozen BK104.out 0
                              have hfz35_1 := blk_frozen BK104.out 1
                              have hfz35_2 := blk_frozen BK104.out 2
                              have hfz35_3 := blk_frozen BK104.out 3
                              go_wp2_with (first | ((with_reducible refine gate_builtin (b := .append) (xs := #[(.tmp 59), (.tmp 71)]) rfl ?_); at_builtin; refine Kd.R_append k34 (w0 := w) w.heap.size rfl (.tmp 59) (.tmp 71) 31 34 (.agg #[(.int .i64 0), (.int .i64 0), (.bool false)]) 24 rfl Try.underlying31 info34 rfl (by decide) (by omega) u7 x7_4 (⟨((rd_T26 l2 x13_1).f0), x10_4, false⟩ : S34) [.int .i64 ((rd_T26 l2 x13_1).f0), .int .i64 x10_4, .bool false] (fun _ => True) (fun _ => False) rfl (by first | (go_simp; done) | (go_simp; rfl)) ?aP (fun _ hk => hk.elim) ?aF ?aO ?aB ?aS ?aL ?_; (case aP => exact k34_mkM _ _ _ (⟨((rd_T26 l2 x13_1).f0), x10_4, false⟩ : S34)); (case aB => exact (by repeat (first | (with_reducible first | exact HB.out | apply below_alloc | apply pw_below_drewN | apply below_drew1 | refine below_set ?_ GE104.out) | exact HB.out))); (case aF => exact (fun _ _ => trivial)); (case aO => exact (by (with_reducible repeat (first | apply Kd.R_alloc | apply Kd.R_drewN | apply Kd.R_drew)); exact Kd.R_mono (Kd.R_far (p := ⟨gb104, 1, none⟩) (Kd.R_far (p := ⟨gb104, 2, none⟩) (Kd.R_types HO_7.out BK104.out (by decide)) (fun _ hk => hk.2) (.int .i64 (wrap64 (x105002_4 - x10_4)))) (fun _ hk => hk.2) (.int .i64 (wrap64 (x105001_4 - x10_4)))) (fun _ hk => trivial))); (case aS => exact (below_size (by repeat (first | (with_reducible first | exact HB.out | apply below_alloc | apply pw_below_drewN | apply below_drew1 | refine below_set ?_ GE104.out) | exact HB.out)))); (case aL => have := LMc31.out; omega); intro v112 w36 ho hb hg hat; rw [← Ny111.out] at ho; have n0_ := Aside0.mk (blk_grown (g := gb104) (o := .cells #[.int .i64 ((rd_T26 l2 x13_1).f0), .int .i64 (wrap64 (x105001_4 - x10_4)), .int .i64 (wrap64 (x105002_4 - x10_4)), .bool ((rd_T26 l2 x13_1).f3)] 26 (0, 0)) (by (with_reducible repeat (first | refine blk_drewN ?_ _ | refine blk_drew ?_ | refine blk_alloc ?_ _)); refine blk_put (cs := #[.int .i64 ((rd_T26 l2 x13_1).f0), .int .i64 x105001_4, .int .i64 (wrap64 (x105002_4 - x10_4)), .bool ((rd_T26 l2 x13_1).f3)]) ?_ 1 _ rfl; (with_reducible repeat (first | refine blk_drewN ?_ _ | refine blk_drew ?_ | refine blk_alloc ?_ _)); refine blk_put (cs := #[.int .i64 ((rd_T26 l2 x13_1).f0), .int .i64 x105001_4, .int .i64 x105002_4, .bool ((rd_T26 l2 x13_1).f3)]) ?_ 2 _ rfl; (with_reducible repeat (first | refine blk_drewN ?_ _ | refine blk_drew ?_ | refine blk_alloc ?_ _)); exact BK104.out) hg (Kd.R_ne HO_7.out BK104.out (by decide))); have n1_ := Aside0.mk (hb); have n2_ := Aside0.mk (ho); clear BK104; clear HB; clear HO_7; have BK104 := n0_; have HB := n1_; have HO113 := n2_; clear n0_ n1_ n2_; clear ho hb hg hat; have hcz37_0 : w36.cell? ⟨gb104, 0, none⟩ = some (.int .i64 ((rd_T26 l2 x13_1).f0)) := (blk_cell BK104.out 0).trans rfl; have hcz37_1 : w36.cell? ⟨gb104, 1, none⟩ = some (.int .i64 (wrap64 (x105001_4 - x10_4))) := (blk_cell BK104.out 1).trans rfl; have hcz37_2 : w36.cell? ⟨gb104, 2, none⟩ = some (.int .i64 (wrap64 (x105002_4 - x10_4))) := (blk_cell BK104.out 2).trans rfl; have hcz37_3 : w36.cell? ⟨gb104, 3, none⟩ = some (.bool ((rd_T26 l2 x13_1).f3)) := (blk_cell BK104.out 3).trans rfl; have hfz37_0 := blk_frozen BK104.out 0; have hfz37_1 := blk_frozen BK104.out 1; have hfz37_2 := blk_frozen BK104.out 2; have hfz37_3 := blk_frozen BK104.out 3))
                              go_roundg k4
                              case measure => have := HK1.out; have := HJ6.out; have := HJ12.out; have := HK4.out; omega
                              case rel => exact ⟨(wrap64 (x0_4 - x10_4)), (y111), (ji34), (wrap64 (x105001_4 - x10_4)), (wrap64 (x105002_4 - x10_4)), (by first | rfl | (simp; done) | (simp [*]; done)), (by first | rfl | (simp; done) | (simp only [← hji34] <;> (first | rfl | simp)) | (simp [*]; done)), H', ⟨by have := HK1.out; have := HJ6.out; have := HJ12.out; have := HK4.out; omega⟩, ⟨by (with_reducible repeat (first | apply Kd.R_alloc | apply Kd.R_drewN | apply Kd.R_drew)); exact HO113.out⟩, ⟨by (with_reducible repeat (first | refine blk_drewN ?_ _ | refine blk_drew ?_ | refine blk_alloc ?_ _)); exact BK104.out⟩, ⟨by repeat (first | (with_reducible first | exact HB.out | apply below_alloc | apply pw_below_drewN | apply below_drew1 | refine below_set ?_ GE104.out) | exact HB.out)⟩⟩
                            · rw [if_neg c31] at H
                              exact absurd H (by simp)
                        · rw [if_neg c22] at H
                          have c22b0 : decide (0 < x10_4) = false := decide_eq_false c22
                          clear c22
                          have H' := Aside0.mk H
                          clear H
                          go_wp2
                          go_roundg k4
                          case measure => have := HK1.out; have := HJ6.out; have := HJ12.out; have := HK4.out; omega
                          case rel => exact ⟨(x0_4), (x7_4), (wrap64 (x13_1 + 1)), (by first | rfl | (simp; done) | (simp [*]; done)), (by first | rfl | (simp; done) | (simp [*]; done)), H', ⟨by have := HK1.out; have := HJ6.out; have := HJ12.out; have := HK4.out; omega⟩, ⟨by (with_reducible repeat (first | apply Kd.R_alloc | apply Kd.R_drewN | apply Kd.R_drew)); exact HO_7.out⟩, ⟨by repeat (first | (with_reducible first | exact HB.out | apply below_alloc | apply pw_below_drewN | apply below_drew1 | refine below_set ?_ GE104.out) | exact HB.out)⟩⟩
          · rw [if_neg c6] at H
            exact absurd H (by simp)
        · rw [if_neg c5] at H
          exact absurd H (by simp)
      · rw [if_neg c4] at H
        have c4b0 : decide (x13_1 < (l2.length : Int)) = false := decide_eq_false c4
        clear c4
        obtain rfl := Option.some.inj H
        go_wp2
        go_ret
        exact ⟨_, by first | rfl | (simp [errW_none, errW_some] <;> rfl) | (simp [*, errW_none, errW_some] <;> rfl), by (with_reducible repeat (first | apply Kd.R_alloc | apply Kd.R_drewN | apply Kd.R_drew)); exact HO_7.out, by repeat (first | (with_reducible first | exact HB.out | apply below_alloc | apply pw_below_drewN | apply below_drew1) | exact HB.out)⟩

/-! ### pump_Sum: function 11 -/
def pump_Sum.l0 : Nat → Int → List (S34) → Int → Int → Option (Int)
  | 0, _, _, _, _ => none
  | k + 1, x3, x6, x7, x8 => if x8 < x7 then (if 0 ≤ x8 then (if x8 < (x6.length : Int) then (pump_Sum.l0 k (wrap64 (x3 + ((rd_T34 x6 x8).f1))) x6 x7 (wrap64 (x8 + 1))) else (none)) else (none)) else (some x3)
def pump_Sum.f (k : Nat) (l0 : List (S34)) : Option (Int) := pump_Sum.l0 k 0 l0 (l0.length : Int) 0
theorem pump_Sum.mono_l : ∀ k, (∀ y0 y1 y2 y3, LeO (pump_Sum.l0 k y0 y1 y2 y3) (pump_Sum.l0 (k + 1) y0 y1 y2 y3))
  | 0 => fun _ _ _ _ r h => by simp [pump_Sum.l0] at h
  | k + 1 => by
    have ih0 := pump_Sum.mono_l k
    · intro y0 y1 y2 y3
      unfold pump_Sum.l0
      repeat' first
      | (with_reducible exact ih0 _ _ _ _)
      | (with_reducible exact LeO.refl _)
      | (with_reducible exact LeO.none _)
      | (with_reducible refine LeO.ite ?_ ?_)
      | (with_reducible refine LeO.bind ?_ (fun _ => ?_))
      | exact ih0 _ _ _ _
      | exact LeO.none _
      | refine LeO.ite ?_ ?_
      | refine LeO.bind ?_ (fun _ => ?_)
theorem pump_Sum.mono : ∀ a0 k, LeO (pump_Sum.f k a0) (pump_Sum.f (k + 1) a0) := by
  intro a0 k
  have ih0 := pump_Sum.mono_l k
  unfold pump_Sum.f
  repeat' first
      | (with_reducible exact ih0 _ _ _ _)
      | (with_reducible exact LeO.refl _)
      | (with_reducible exact LeO.none _)
      | (with_reducible refine LeO.ite ?_ ?_)
      | (with_reducible refine LeO.bind ?_ (fun _ => ?_))
      | exact ih0 _ _ _ _
      | exact LeO.none _
      | refine LeO.ite ?_ ?_
      | refine LeO.bind ?_ (fun _ => ?_)
set_option maxHeartbeats 8000000 in
set_option maxRecDepth 100000 in
theorem pump_Sum.calls (k : Nat) (A0 : Option Addr) (c0 : Nat) (l0 : List (S34)) (r : Int) (w : World) (hr0 : Kd.C k34 w A0 l0.length l0) (hc0 : l0.length ≤ c0) (h : pump_Sum.f k l0 = some r) :
    Calls Try.prog 11 #[.slice A0 l0.length c0] w fun e w' => e = .returned (.int .i64 r) ∧ Below w.heap.size w w' := by
  have hu34 := Try.underlying34
  have HR0 := Aside0.mk hr0
  have HC0 := Aside0.mk hc0
  clear hr0 hc0
  have HB := Aside0.mk (Below.refl w.heap.size w)
  have H : (pump_Sum.l0 k 0 l0 (l0.length : Int) 0) = some r := h
  clear h
  have H' := Aside0.mk H
  clear H
  go_enter Try.func11, Try.ntmps11
  go_wp2
  go_loopg [3, 8] k (fun kq v3 v8 w' => ∃ (x3_1 : Int) (x8_1 : Int), v3 = .int .i64 x3_1 ∧ v8 = .int .i64 x8_1 ∧ Aside0 (pump_Sum.l0 kq x3_1 l0 (l0.length : Int) x8_1 = some r) ∧ Aside0 (kq ≤ k) ∧ Aside0 (Below w.heap.size w w'))
  case atStart => exact ⟨(0), (0), (by first | rfl | (simp; done) | (simp [*]; done)), (by first | rfl | (simp; done) | (simp [*]; done)), H', ⟨Nat.le_refl _⟩, ⟨by repeat (first | (with_reducible first | exact HB.out | apply below_alloc | apply pw_below_drewN | apply below_drew1) | exact HB.out)⟩⟩
  case round =>
    clear H'
    try clear c1
    obtain ⟨x3_1, x8_1, rfl, rfl, HA, HK1, HB⟩ := hrel
    cases gk with
    | zero => exact absurd HA.out (by simp [pump_Sum.l0])
    | succ k1 =>
      have H := HA.out
      clear HA
      simp only [pump_Sum.l0] at H
      by_cases c2 : x8_1 < (l0.length : Int)
      · rw [if_pos c2] at H
        have c2b0 : decide (x8_1 < (l0.length : Int)) = true := decide_eq_true c2
        clear c2
        by_cases c3 : 0 ≤ x8_1
        · rw [if_pos c3] at H
          have c3b0 : decide (0 ≤ x8_1) = true := decide_eq_true c3
          clear c3
          by_cases c4 : x8_1 < (l0.length : Int)
          · rw [if_pos c4] at H
            have c4b0 : decide (x8_1 < (l0.length : Int)) = true := decide_eq_true c4
            clear c4
            have H' := Aside0.mk H
            clear H
            have p114 : 0 ≤ (x8_1 : Int) := of_decide_eq_true (by first | (with_reducible assumption) | assumption)
            have q114 : x8_1 < (l0.length : Int) := of_decide_eq_true (by first | (with_reducible assumption) | assumption)
            obtain ⟨ad114, e114, hx114_0, hx114_1, hx114_2⟩ := at_T34 HR0.out x8_1 p114 q114
            cases e114
            replace hx114_0 := (HB.out.cell (World.block_lt_of_cell? w _ hx114_0)).trans hx114_0
            replace hx114_1 := (HB.out.cell (World.block_lt_of_cell? w _ hx114_1)).trans hx114_1
            replace hx114_2 := (HB.out.cell (World.block_lt_of_cell? w _ hx114_2)).trans hx114_2
            replace p114 := eq_true p114
            replace q114 := eq_true q114
            go_wp2_with (first | ((with_reducible refine gate_dst (N := 5) rfl ?_); refine box_event ?hg (N := 5) ?hd (cs := #[.int .i64 0, .int .i64 0, .bool false]) (t := 34) ?hr ?_; (case hd => rfl); (case hg => rfl); (case hr => first | (go_simp; done) | (go_simp; rfl)); intro gb115 hg w5 hbox hb; have n0_ := Aside0.mk (below_step (by repeat (first | (with_reducible first | exact HB.out | apply below_alloc | apply pw_below_drewN | apply below_drew1) | exact HB.out)) hb); have n1_ := Aside0.mk (hbox); have n2_ := Aside0.mk ((by rw [hg]; exact (below_size (by repeat (first | (with_reducible first | exact HB.out | apply below_alloc | apply pw_below_drewN | apply below_drew1) | exact HB.out))) : w.heap.size ≤ gb115)); have n3_ := Aside0.mk ((by rw [hg]; exact (below_size (by repeat (first | (with_reducible first | exact HB.out | apply below_alloc | apply pw_below_drewN | apply below_drew1) | exact HB.out))) : w.heap.size ≤ gb115)); clear HB; have HB := n0_; have BK115 := n1_; have GW115 := n2_; have GE115 := n3_; clear n0_ n1_ n2_ n3_; clear hb hbox hg; have hcz6_0 : w5.cell? ⟨gb115, 0, none⟩ = some (.int .i64 0) := (blk_cell BK115.out 0).trans rfl; have hcz6_1 : w5.cell? ⟨gb115, 1, none⟩ = some (.int .i64 0) := (blk_cell BK115.out 1).trans rfl; have hcz6_2 : w5.cell? ⟨gb115, 2, none⟩ = some (.bool false) := (blk_cell BK115.out 2).trans rfl; have hfz6_0 := blk_frozen BK115.out 0; have hfz6_1 := blk_frozen BK115.out 1; have hfz6_2 := blk_frozen BK115.out 2))
            go_roundg k1
            case measure => have := HK1.out; omega
            case rel => exact ⟨(wrap64 (x3_1 + ((rd_T34 l0 x8_1).f1))), (wrap64 (x8_1 + 1)), (by first | rfl | (simp; done) | (simp [*]; done)), (by first | rfl | (simp; done) | (simp [*]; done)), H', ⟨by have := HK1.out; omega⟩, ⟨by repeat (first | (with_reducible first | exact HB.out | apply below_alloc | apply pw_below_drewN | apply below_drew1 | refine below_set ?_ GE115.out) | exact HB.out)⟩⟩
          · rw [if_neg c4] at H
            exact absurd H (by simp)
        · rw [if_neg c3] at H
          exact absurd H (by simp)
      · rw [if_neg c2] at H
        have c2b0 : decide (x8_1 < (l0.length : Int)) = false := decide_eq_false c2
        clear c2
        obtain rfl := Option.some.inj H
        go_wp2
        go_ret
        exact ⟨by first | rfl | (simp [errW_none, errW_some] <;> rfl) | (simp [*, errW_none, errW_some] <;> rfl), by repeat (first | (with_reducible first | exact HB.out | apply below_alloc | apply pw_below_drewN | apply below_drew1) | exact HB.out)⟩

end Go.Proofs.Ytndchendimbfnaa.PPumpTells
