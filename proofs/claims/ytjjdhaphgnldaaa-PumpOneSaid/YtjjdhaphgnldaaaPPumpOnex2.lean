-- PRINTED BY print.sh 35421559b90ae4d0a3588c463048766b98c2df88dd9212a6774a882060cdf62d: not written by this session
import Derived.Test.YtjjdhaphgnldaaaPPumpOnex0
import Derived.Test.YtjjdhaphgnldaaaPPumpOnex1
namespace Go.Proofs.Ytjjdhaphgnldaaa.PPumpOne
open Go.RowKit Go.Proofs.YtjjdhaphgnldaaaW.PrintWords Go.Proofs.YtjjdhaphgnldaaaW.PrintLast Go.Proofs.YtjjdhaphgnldaaaW.PrintMore
attribute [local go_sem] max2_int min2_int max_two min_two max_three min_three max_four min_four   -- for this text's walks alone
set_option linter.unusedVariables false
set_option linter.unusedSimpArgs false

attribute [local go_sem high] eqA34
/-! ### pump_Plan: function 11 -/
mutual
def pump_Plan.l0 : Nat → Int → Int → List (S34) → List (S26) → Int → Int → Option ((List (S34)))
  | 0, _, _, _, _, _, _ => none
  | k + 1, x0, x1, x7, x11, x12, x13 => if x13 < x12 then (if 0 ≤ x13 then (if x13 < (x11.length : Int) then (if ((rd_T26 x11 x13).f2) = 0 then (pump_Plan.j1 k x0 x1 x7 x11 x12 x13 ((rd_T26 x11 x13).f3) ((rd_T26 x11 x13).f0) ((rd_T26 x11 x13).f1) ((rd_T26 x11 x13).f2) ((rd_T26 x11 x13).f3)) else (pump_Plan.j1 k x0 x1 x7 x11 x12 x13 false ((rd_T26 x11 x13).f0) ((rd_T26 x11 x13).f1) ((rd_T26 x11 x13).f2) ((rd_T26 x11 x13).f3))) else (none)) else (none)) else (some x7)
def pump_Plan.j1 : Nat → Int → Int → List (S34) → List (S26) → Int → Int → Bool → Int → Int → Int → Bool → Option ((List (S34)))
  | 0, _, _, _, _, _, _, _, _, _, _, _ => none
  | k + 1, x0, x1, x7, x11, x12, x13, x23, x103000, x103001, x103002, x103003 => if x23 = true then (if x7.length < 5864062014805 then (pump_Plan.j2 k x0 x1 (x7 ++ [(⟨x103000, 0, true⟩ : S34)]) x11 x12 x13 x103000 x103001 x103002 x103003) else (none)) else (pump_Plan.j2 k x0 x1 x7 x11 x12 x13 x103000 x103001 x103002 x103003)
def pump_Plan.j2 : Nat → Int → Int → List (S34) → List (S26) → Int → Int → Int → Int → Int → Bool → Option ((List (S34)))
  | 0, _, _, _, _, _, _, _, _, _, _ => none
  | k + 1, x0, x1, x7, x11, x12, x13, x103000, x103001, x103002, x103003 => pump_Plan.l1 k x0 x1 x7 (mn (mn (mn x103002 x103001) x0) x1) x11 x12 x13 x103000 x103001 x103002 x103003
def pump_Plan.l1 : Nat → Int → Int → List (S34) → Int → List (S26) → Int → Int → Int → Int → Int → Bool → Option ((List (S34)))
  | 0, _, _, _, _, _, _, _, _, _, _, _ => none
  | k + 1, x0, x1, x7, x10, x11, x12, x13, x103000, x103001, x103002, x103003 => if x10 > 0 then (if (wrap64 (x103002 - x10)) = 0 then (if x7.length < 5864062014805 then (pump_Plan.l1 k (wrap64 (x0 - x10)) x1 (x7 ++ [(⟨x103000, x10, x103003⟩ : S34)]) (mn (mn (mn (wrap64 (x103002 - x10)) (wrap64 (x103001 - x10))) (wrap64 (x0 - x10))) x1) x11 x12 x13 x103000 (wrap64 (x103001 - x10)) (wrap64 (x103002 - x10)) x103003) else (none)) else (if x7.length < 5864062014805 then (pump_Plan.l1 k (wrap64 (x0 - x10)) x1 (x7 ++ [(⟨x103000, x10, false⟩ : S34)]) (mn (mn (mn (wrap64 (x103002 - x10)) (wrap64 (x103001 - x10))) (wrap64 (x0 - x10))) x1) x11 x12 x13 x103000 (wrap64 (x103001 - x10)) (wrap64 (x103002 - x10)) x103003) else (none))) else (pump_Plan.l0 k x0 x1 x7 x11 x12 (wrap64 (x13 + 1)))
end
def pump_Plan.f (k : Nat) (a0 : Int) (a1 : Int) (l2 : List (S26)) : Option ((List (S34))) := pump_Plan.l0 k a0 a1 ([] : List (S34)) l2 (l2.length : Int) 0
theorem pump_Plan.mono_l : ∀ k, (∀ y0 y1 y2 y3 y4 y5, LeO (pump_Plan.l0 k y0 y1 y2 y3 y4 y5) (pump_Plan.l0 (k + 1) y0 y1 y2 y3 y4 y5)) ∧ (∀ y0 y1 y2 y3 y4 y5 y6 y7 y8 y9 y10, LeO (pump_Plan.j1 k y0 y1 y2 y3 y4 y5 y6 y7 y8 y9 y10) (pump_Plan.j1 (k + 1) y0 y1 y2 y3 y4 y5 y6 y7 y8 y9 y10)) ∧ (∀ y0 y1 y2 y3 y4 y5 y6 y7 y8 y9, LeO (pump_Plan.j2 k y0 y1 y2 y3 y4 y5 y6 y7 y8 y9) (pump_Plan.j2 (k + 1) y0 y1 y2 y3 y4 y5 y6 y7 y8 y9)) ∧ (∀ y0 y1 y2 y3 y4 y5 y6 y7 y8 y9 y10, LeO (pump_Plan.l1 k y0 y1 y2 y3 y4 y5 y6 y7 y8 y9 y10) (pump_Plan.l1 (k + 1) y0 y1 y2 y3 y4 y5 y6 y7 y8 y9 y10))
  | 0 => ⟨fun _ _ _ _ _ _ r h => by simp [pump_Plan.l0] at h, fun _ _ _ _ _ _ _ _ _ _ _ r h => by simp [pump_Plan.j1] at h, fun _ _ _ _ _ _ _ _ _ _ r h => by simp [pump_Plan.j2] at h, fun _ _ _ _ _ _ _ _ _ _ _ r h => by simp [pump_Plan.l1] at h⟩
  | k + 1 => by
    obtain ⟨ih0, ih1, ih2, ih3⟩ := pump_Plan.mono_l k
    refine ⟨?_, ?_, ?_, ?_⟩
    · intro y0 y1 y2 y3 y4 y5
      unfold pump_Plan.l0
      repeat' first
      | (with_reducible exact ih0 _ _ _ _ _ _)
      | (with_reducible exact ih1 _ _ _ _ _ _ _ _ _ _ _)
      | (with_reducible exact ih2 _ _ _ _ _ _ _ _ _ _)
      | (with_reducible exact ih3 _ _ _ _ _ _ _ _ _ _ _)
      | (with_reducible exact LeO.refl _)
      | (with_reducible exact LeO.none _)
      | (with_reducible refine LeO.ite ?_ ?_)
      | (with_reducible refine LeO.bind ?_ (fun _ => ?_))
      | exact ih0 _ _ _ _ _ _
      | exact ih1 _ _ _ _ _ _ _ _ _ _ _
      | exact ih2 _ _ _ _ _ _ _ _ _ _
      | exact ih3 _ _ _ _ _ _ _ _ _ _ _
      | exact LeO.none _
      | refine LeO.ite ?_ ?_
      | refine LeO.bind ?_ (fun _ => ?_)
    · intro y0 y1 y2 y3 y4 y5 y6 y7 y8 y9 y10
      unfold pump_Plan.j1
      repeat' first
      | (with_reducible exact ih0 _ _ _ _ _ _)
      | (with_reducible exact ih1 _ _ _ _ _ _ _ _ _ _ _)
      | (with_reducible exact ih2 _ _ _ _ _ _ _ _ _ _)
      | (with_reducible exact ih3 _ _ _ _ _ _ _ _ _ _ _)
      | (with_reducible exact LeO.refl _)
      | (with_reducible exact LeO.none _)
      | (with_reducible refine LeO.ite ?_ ?_)
      | (with_reducible refine LeO.bind ?_ (fun _ => ?_))
      | exact ih0 _ _ _ _ _ _
      | exact ih1 _ _ _ _ _ _ _ _ _ _ _
      | exact ih2 _ _ _ _ _ _ _ _ _ _
      | exact ih3 _ _ _ _ _ _ _ _ _ _ _
      | exact LeO.none _
      | refine LeO.ite ?_ ?_
      | refine LeO.bind ?_ (fun _ => ?_)
    · intro y0 y1 y2 y3 y4 y5 y6 y7 y8 y9
      unfold pump_Plan.j2
      repeat' first
      | (with_reducible exact ih0 _ _ _ _ _ _)
      | (with_reducible exact ih1 _ _ _ _ _ _ _ _ _ _ _)
      | (with_reducible exact ih2 _ _ _ _ _ _ _ _ _ _)
      | (with_reducible exact ih3 _ _ _ _ _ _ _ _ _ _ _)
      | (with_reducible exact LeO.refl _)
      | (with_reducible exact LeO.none _)
      | (with_reducible refine LeO.ite ?_ ?_)
      | (with_reducible refine LeO.bind ?_ (fun _ => ?_))
      | exact ih0 _ _ _ _ _ _
      | exact ih1 _ _ _ _ _ _ _ _ _ _ _
      | exact ih2 _ _ _ _ _ _ _ _ _ _
      | exact ih3 _ _ _ _ _ _ _ _ _ _ _
      | exact LeO.none _
      | refine LeO.ite ?_ ?_
      | refine LeO.bind ?_ (fun _ => ?_)
    · intro y0 y1 y2 y3 y4 y5 y6 y7 y8 y9 y10
      unfold pump_Plan.l1
      repeat' first
      | (with_reducible exact ih0 _ _ _ _ _ _)
      | (with_reducible exact ih1 _ _ _ _ _ _ _ _ _ _ _)
      | (with_reducible exact ih2 _ _ _ _ _ _ _ _ _ _)
      | (with_reducible exact ih3 _ _ _ _ _ _ _ _ _ _ _)
      | (with_reducible exact LeO.refl _)
      | (with_reducible exact LeO.none _)
      | (with_reducible refine LeO.ite ?_ ?_)
      | (with_reducible refine LeO.bind ?_ (fun _ => ?_))
      | exact ih0 _ _ _ _ _ _
      | exact ih1 _ _ _ _ _ _ _ _ _ _ _
      | exact ih2 _ _ _ _ _ _ _ _ _ _
      | exact ih3 _ _ _ _ _ _ _ _ _ _ _
      | exact LeO.none _
      | refine LeO.ite ?_ ?_
      | refine LeO.bind ?_ (fun _ => ?_)
theorem pump_Plan.mono : ∀ a0 a1 a2 k, LeO (pump_Plan.f k a0 a1 a2) (pump_Plan.f (k + 1) a0 a1 a2) := by
  intro a0 a1 a2 k
  obtain ⟨ih0, ih1, ih2, ih3⟩ := pump_Plan.mono_l k
  unfold pump_Plan.f
  repeat' first
      | (with_reducible exact ih0 _ _ _ _ _ _)
      | (with_reducible exact ih1 _ _ _ _ _ _ _ _ _ _ _)
      | (with_reducible exact ih2 _ _ _ _ _ _ _ _ _ _)
      | (with_reducible exact ih3 _ _ _ _ _ _ _ _ _ _ _)
      | (with_reducible exact LeO.refl _)
      | (with_reducible exact LeO.none _)
      | (with_reducible refine LeO.ite ?_ ?_)
      | (with_reducible refine LeO.bind ?_ (fun _ => ?_))
      | exact ih0 _ _ _ _ _ _
      | exact ih1 _ _ _ _ _ _ _ _ _ _ _
      | exact ih2 _ _ _ _ _ _ _ _ _ _
      | exact ih3 _ _ _ _ _ _ _ _ _ _ _
      | exact LeO.none _
      | refine LeO.ite ?_ ?_
      | refine LeO.bind ?_ (fun _ => ?_)
set_option maxHeartbeats 8000000 in
set_option maxRecDepth 100000 in
theorem pump_Plan.calls (k : Nat) (a0 : Int) (a1 : Int) (A2 : Option Addr) (c2 : Nat) (l2 : List (S26)) (r : List (S34)) (w : World) (hr2 : Kd.C k26 w A2 l2.length l2) (hc2 : l2.length ≤ c2) (h : pump_Plan.f k a0 a1 l2 = some r) :
    Calls Try.prog 11 #[.int .i64 a0, .int .i64 a1, .slice A2 l2.length c2] w fun e w' => ∃ v0_ : Value, e = .returned (v0_) ∧ Kd.R k34 34 w' w.heap.size (fun _ => True) v0_ r ∧ Below w.heap.size w w' := by
  have hu26 := Try.underlying26
  have hu34 := Try.underlying34
  have HR2 := Aside0.mk hr2
  have HC2 := Aside0.mk hc2
  clear hr2 hc2
  have HB := Aside0.mk (Below.refl w.heap.size w)
  have H : (pump_Plan.l0 k a0 a1 ([] : List (S34)) l2 (l2.length : Int) 0) = some r := h
  clear h
  have H' := Aside0.mk H
  clear H
  go_enter Try.func11, Try.ntmps11
  go_wp2
  go_loopg [0, 7, 13] k (fun kq v0 v7 v13 w' => ∃ (x0_1 : Int) (x7_1 : List (S34)) (x13_1 : Int), v0 = .int .i64 x0_1 ∧ v13 = .int .i64 x13_1 ∧ Aside0 (pump_Plan.l0 kq x0_1 a1 x7_1 l2 (l2.length : Int) x13_1 = some r) ∧ Aside0 (kq ≤ k) ∧ Aside0 (Kd.R k34 34 w' w.heap.size (fun _ => True) v7 x7_1) ∧ Aside0 (Below w.heap.size w w'))
  case atStart => exact ⟨(a0), (([] : List (S34))), (0), (by first | rfl | (simp; done) | (simp [*]; done)), (by first | rfl | (simp; done) | (simp [*]; done)), H', ⟨Nat.le_refl _⟩, ⟨by first | exact Kd.R_nil _ _ _ _ _ | exact Kd.N_nil _ _ _ _ _ | exact Kd.V_nil _ _ _ _ _ | exact Kd.Q_nil _ _ _ _ _ | exact Kd.S_nil _ _ _ _ _⟩, ⟨by repeat (first | (with_reducible first | exact HB.out | apply below_alloc | apply pw_below_drewN | apply below_drew1) | exact HB.out)⟩⟩
  case round =>
    clear H'
    try clear c1
    try clear c2
    try clear p2
    obtain ⟨x0_1, x7_1, x13_1, rfl, rfl, HA, HK1, HO_7, HB⟩ := hrel
    cases gk with
    | zero => exact absurd HA.out (by simp [pump_Plan.l0])
    | succ k1 =>
      have H := HA.out
      clear HA
      simp only [pump_Plan.l0] at H
      by_cases c4 : x13_1 < (l2.length : Int)
      · rw [if_pos c4] at H
        have c4b0 : decide (x13_1 < (l2.length : Int)) = true := decide_eq_true c4
        clear c4
        by_cases c5 : 0 ≤ x13_1
        · rw [if_pos c5] at H
          have c5b0 : decide (0 ≤ x13_1) = true := decide_eq_true c5
          clear c5
          by_cases c6 : x13_1 < (l2.length : Int)
          · rw [if_pos c6] at H
            have c6b0 : decide (x13_1 < (l2.length : Int)) = true := decide_eq_true c6
            clear c6
            have HC7 := Aside0.mk H
            clear H
            have p101 : 0 ≤ (x13_1 : Int) := of_decide_eq_true (by first | (with_reducible assumption) | assumption)
            have q101 : x13_1 < (l2.length : Int) := of_decide_eq_true (by first | (with_reducible assumption) | assumption)
            obtain ⟨ad101, e101, hx101_0, hx101_1, hx101_2, hx101_3⟩ := at_T26 HR2.out x13_1 p101 q101
            cases e101
            replace hx101_0 := (HB.out.cell (World.block_lt_of_cell? w _ hx101_0)).trans hx101_0
            replace hx101_1 := (HB.out.cell (World.block_lt_of_cell? w _ hx101_1)).trans hx101_1
            replace hx101_2 := (HB.out.cell (World.block_lt_of_cell? w _ hx101_2)).trans hx101_2
            replace hx101_3 := (HB.out.cell (World.block_lt_of_cell? w _ hx101_3)).trans hx101_3
            replace p101 := eq_true p101
            replace q101 := eq_true q101
            go_upto_region 5 with (first | ((with_reducible refine gate_dst (N := 9) rfl ?_); refine box_event ?hg (N := 9) ?hd (cs := #[.int .i64 0, .int .i64 0, .int .i64 0, .bool false]) (t := 26) ?hr ?_; (case hd => rfl); (case hg => rfl); (case hr => first | (go_simp; done) | (go_simp; rfl)); intro gb102 hg w8 hbox hb; have n0_ := Aside0.mk (Kd.R_below (by (with_reducible repeat (first | apply Kd.R_alloc | apply Kd.R_drewN | apply Kd.R_drew)); exact HO_7.out) hb); have n1_ := Aside0.mk (below_step (by repeat (first | (with_reducible first | exact HB.out | apply below_alloc | apply pw_below_drewN | apply below_drew1) | exact HB.out)) hb); have n2_ := Aside0.mk (hbox); have n3_ := Aside0.mk ((by rw [hg]; exact (below_size (by repeat (first | (with_reducible first | exact HB.out | apply below_alloc | apply pw_below_drewN | apply below_drew1) | exact HB.out))) : w.heap.size ≤ gb102)); have n4_ := Aside0.mk ((by rw [hg]; exact (below_size (by repeat (first | (with_reducible first | exact HB.out | apply below_alloc | apply pw_below_drewN | apply below_drew1) | exact HB.out))) : w.heap.size ≤ gb102)); clear HO_7; clear HB; have HO_7 := n0_; have HB := n1_; have BK102 := n2_; have GW102 := n3_; have GE102 := n4_; clear n0_ n1_ n2_ n3_ n4_; clear hb hbox hg; have hcz9_0 : w8.cell? ⟨gb102, 0, none⟩ = some (.int .i64 0) := (blk_cell BK102.out 0).trans rfl; have hcz9_1 : w8.cell? ⟨gb102, 1, none⟩ = some (.int .i64 0) := (blk_cell BK102.out 1).trans rfl; have hcz9_2 : w8.cell? ⟨gb102, 2, none⟩ = some (.int .i64 0) := (blk_cell BK102.out 2).trans rfl; have hcz9_3 : w8.cell? ⟨gb102, 3, none⟩ = some (.bool false) := (blk_cell BK102.out 3).trans rfl; have hfz9_0 := blk_frozen BK102.out 0; have hfz9_1 := blk_frozen BK102.out 1; have hfz9_2 := blk_frozen BK102.out 2; have hfz9_3 := blk_frozen BK102.out 3))
            (try simp only [Act.put, List.setIfInBounds_toArray, List.set_cons_zero, List.set_cons_succ])
            go_cut [23] (fun v23 wc => ∃ (kq : Nat) (x23_6 : Bool), v23 = .bool x23_6 ∧ Aside0 (pump_Plan.j1 kq x0_1 a1 x7_1 l2 (l2.length : Int) x13_1 x23_6 ((rd_T26 l2 x13_1).f0) ((rd_T26 l2 x13_1).f1) ((rd_T26 l2 x13_1).f2) ((rd_T26 l2 x13_1).f3) = some r) ∧ Aside0 (kq ≤ k1) ∧ Aside0 (Kd.R k34 34 wc w.heap.size (fun _ => True) u7 x7_1) ∧ Aside0 (wc.heap[gb102]? = some (.cells #[.int .i64 ((rd_T26 l2 x13_1).f0), .int .i64 ((rd_T26 l2 x13_1).f1), .int .i64 ((rd_T26 l2 x13_1).f2), .bool ((rd_T26 l2 x13_1).f3)] 26 (0, 0))) ∧ Aside0 (Below w.heap.size w wc))
            case first =>
              have H := HC7.out
              clear HC7
              by_cases c10 : ((rd_T26 l2 x13_1).f2) = 0
              · rw [if_pos c10] at H
                have c10b0 : (((rd_T26 l2 x13_1).f2) == 0) = true := beq_iff_eq.mpr c10
                have c10b1 : (((rd_T26 l2 x13_1).f2) != 0) = false := bne_eq_false_iff_eq.mpr c10
                clear c10
                (first | rw [c10b0] | (simp only [i64_w, i32_w]; rw [c10b0]) | skip)
                have H' := Aside0.mk H
                clear H
                have hcz11_0 : w8.cell? ⟨gb102, 0, none⟩ = some (.int .i64 0) := (blk_cell BK102.out 0).trans rfl
                have hcz11_1 : w8.cell? ⟨gb102, 1, none⟩ = some (.int .i64 0) := (blk_cell BK102.out 1).trans rfl
                have hcz11_2 : w8.cell? ⟨gb102, 2, none⟩ = some (.int .i64 0) := (blk_cell BK102.out 2).trans rfl
                have hcz11_3 : w8.cell? ⟨gb102, 3, none⟩ = some (.bool false) := (blk_cell BK102.out 3).trans rfl
                have hfz11_0 := blk_frozen BK102.out 0
                have hfz11_1 := blk_frozen BK102.out 1
                have hfz11_2 := blk_frozen BK102.out 2
                have hfz11_3 := blk_frozen BK102.out 3
                go_wp2
                go_meet
                case rel => exact ⟨_, ((rd_T26 l2 x13_1).f3), (by first | rfl | (simp; done) | (simp [*]; done)), H', ⟨by have := HK1.out; first | omega | exact Nat.le_refl _⟩, ⟨by (with_reducible repeat (first | apply Kd.R_alloc | apply Kd.R_drewN | apply Kd.R_drew)); exact Kd.R_mono (Kd.R_far (p := ⟨gb102, 3, none⟩) (Kd.R_far (p := ⟨gb102, 2, none⟩) (Kd.R_far (p := ⟨gb102, 1, none⟩) (Kd.R_far (p := ⟨gb102, 0, none⟩) (Kd.R_types HO_7.out BK102.out (by decide)) (fun _ hk => hk.2) (.int .i64 ((rd_T26 l2 x13_1).f0))) (fun _ hk => hk.2) (.int .i64 ((rd_T26 l2 x13_1).f1))) (fun _ hk => hk.2) (.int .i64 ((rd_T26 l2 x13_1).f2))) (fun _ hk => hk.2) (.bool ((rd_T26 l2 x13_1).f3))) (fun _ hk => trivial)⟩, ⟨by (with_reducible repeat (first | refine blk_drewN ?_ _ | refine blk_drew ?_ | refine blk_alloc ?_ _)); refine blk_put (cs := #[.int .i64 ((rd_T26 l2 x13_1).f0), .int .i64 ((rd_T26 l2 x13_1).f1), .int .i64 ((rd_T26 l2 x13_1).f2), .bool false]) ?_ 3 _ rfl; (with_reducible repeat (first | refine blk_drewN ?_ _ | refine blk_drew ?_ | refine blk_alloc ?_ _)); refine blk_put (cs := #[.int .i64 ((rd_T26 l2 x13_1).f0), .int .i64 ((rd_T26 l2 x13_1).f1), .int .i64 0, .bool false]) ?_ 2 _ rfl; (with_reducible repeat (first | refine blk_drewN ?_ _ | refine blk_drew ?_ | refine blk_alloc ?_ _)); refine blk_put (cs := #[.int .i64 ((rd_T26 l2 x13_1).f0), .int .i64 0, .int .i64 0, .bool false]) ?_ 1 _ rfl; (with_reducible repeat (first | refine blk_drewN ?_ _ | refine blk_drew ?_ | refine blk_alloc ?_ _)); refine blk_put (cs := #[.int .i64 0, .int .i64 0, .int .i64 0, .bool false]) ?_ 0 _ rfl; (with_reducible repeat (first | refine blk_drewN ?_ _ | refine blk_drew ?_ | refine blk_alloc ?_ _)); exact BK102.out⟩, ⟨by repeat (first | (with_reducible first | exact HB.out | apply below_alloc | apply pw_below_drewN | apply below_drew1 | refine below_set ?_ GE102.out) | exact HB.out)⟩⟩
              · rw [if_neg c10] at H
                have c10b0 : (((rd_T26 l2 x13_1).f2) == 0) = false := beq_eq_false_iff_ne.mpr c10
                have c10b1 : (((rd_T26 l2 x13_1).f2) != 0) = true := bne_iff_ne.mpr c10
                (first | rw [c10b0] | (simp only [i64_w, i32_w]; rw [c10b0]) | skip)
                have H' := Aside0.mk H
                clear H
                have hcz12_0 : w8.cell? ⟨gb102, 0, none⟩ = some (.int .i64 0) := (blk_cell BK102.out 0).trans rfl
                have hcz12_1 : w8.cell? ⟨gb102, 1, none⟩ = some (.int .i64 0) := (blk_cell BK102.out 1).trans rfl
                have hcz12_2 : w8.cell? ⟨gb102, 2, none⟩ = some (.int .i64 0) := (blk_cell BK102.out 2).trans rfl
                have hcz12_3 : w8.cell? ⟨gb102, 3, none⟩ = some (.bool false) := (blk_cell BK102.out 3).trans rfl
                have hfz12_0 := blk_frozen BK102.out 0
                have hfz12_1 := blk_frozen BK102.out 1
                have hfz12_2 := blk_frozen BK102.out 2
                have hfz12_3 := blk_frozen BK102.out 3
                go_wp2
                go_meet
                case rel => exact ⟨_, (false), (by first | rfl | (simp; done) | (simp [*]; done)), H', ⟨by have := HK1.out; first | omega | exact Nat.le_refl _⟩, ⟨by (with_reducible repeat (first | apply Kd.R_alloc | apply Kd.R_drewN | apply Kd.R_drew)); exact Kd.R_mono (Kd.R_far (p := ⟨gb102, 3, none⟩) (Kd.R_far (p := ⟨gb102, 2, none⟩) (Kd.R_far (p := ⟨gb102, 1, none⟩) (Kd.R_far (p := ⟨gb102, 0, none⟩) (Kd.R_types HO_7.out BK102.out (by decide)) (fun _ hk => hk.2) (.int .i64 ((rd_T26 l2 x13_1).f0))) (fun _ hk => hk.2) (.int .i64 ((rd_T26 l2 x13_1).f1))) (fun _ hk => hk.2) (.int .i64 ((rd_T26 l2 x13_1).f2))) (fun _ hk => hk.2) (.bool ((rd_T26 l2 x13_1).f3))) (fun _ hk => trivial)⟩, ⟨by (with_reducible repeat (first | refine blk_drewN ?_ _ | refine blk_drew ?_ | refine blk_alloc ?_ _)); refine blk_put (cs := #[.int .i64 ((rd_T26 l2 x13_1).f0), .int .i64 ((rd_T26 l2 x13_1).f1), .int .i64 ((rd_T26 l2 x13_1).f2), .bool false]) ?_ 3 _ rfl; (with_reducible repeat (first | refine blk_drewN ?_ _ | refine blk_drew ?_ | refine blk_alloc ?_ _)); refine blk_put (cs := #[.int .i64 ((rd_T26 l2 x13_1).f0), .int .i64 ((rd_T26 l2 x13_1).f1), .int .i64 0, .bool false]) ?_ 2 _ rfl; (with_reducible repeat (first | refine blk_drewN ?_ _ | refine blk_drew ?_ | refine blk_alloc ?_ _)); refine blk_put (cs := #[.int .i64 ((rd_T26 l2 x13_1).f0), .int .i64 0, .int .i64 0, .bool false]) ?_ 1 _ rfl; (with_reducible repeat (first | refine blk_drewN ?_ _ | refine blk_drew ?_ | refine blk_alloc ?_ _)); refine blk_put (cs := #[.int .i64 0, .int .i64 0, .int .i64 0, .bool false]) ?_ 0 _ rfl; (with_reducible repeat (first | refine blk_drewN ?_ _ | refine blk_drew ?_ | refine blk_alloc ?_ _)); exact BK102.out⟩, ⟨by repeat (first | (with_reducible first | exact HB.out | apply below_alloc | apply pw_below_drewN | apply below_drew1 | refine below_set ?_ GE102.out) | exact HB.out)⟩⟩
            case rest =>
              clear HC7
              try clear c1
              try clear p1
              try clear q1
              try clear hx1
              try clear c2
              try clear p2
              try clear c4
              try clear c4b0
              try clear c5
              try clear c5b0
              try clear c6
              try clear c6b0
              try clear c10
              try clear c10b0
              try clear c10b1
              try clear p10
              try clear q10
              try clear hx10
              try clear c11
              try clear hcz11_0
              try clear hcz11_1
              try clear hcz11_2
              try clear hcz11_3
              try clear hcz12_0
              try clear hcz12_1
              try clear hcz12_2
              try clear hcz12_3
              try clear hcz9_0
              try clear hcz9_1
              try clear hcz9_2
              try clear hcz9_3
              try clear hfz11_0
              try clear hfz11_1
              try clear hfz11_2
              try clear hfz11_3
              try clear hfz12_0
              try clear hfz12_1
              try clear hfz12_2
              try clear hfz12_3
              try clear hfz9_0
              try clear hfz9_1
              try clear hfz9_2
              try clear hfz9_3
              try clear hx101_0
              try clear hx101_1
              try clear hx101_2
              try clear hx101_3
              try clear p101
              try clear p2
              try clear q101
              obtain ⟨kq, x23_6, rfl, HA, HJ6, HO_7, BK102, HB⟩ := hcut
              cases kq with
              | zero => exact absurd HA.out (by simp [pump_Plan.j1])
              | succ kj6 =>
                have H := HA.out
                clear HA
                simp only [pump_Plan.j1] at H
                have HC13 := Aside0.mk H
                clear H
                go_upto_if 23 with (fail)
                go_cut [7] (fun v7 wc => ∃ (kq : Nat) (x7_12 : List (S34)), Aside0 (pump_Plan.j2 kq x0_1 a1 x7_12 l2 (l2.length : Int) x13_1 ((rd_T26 l2 x13_1).f0) ((rd_T26 l2 x13_1).f1) ((rd_T26 l2 x13_1).f2) ((rd_T26 l2 x13_1).f3) = some r) ∧ Aside0 (kq ≤ kj6) ∧ Aside0 (Kd.R k34 34 wc w.heap.size (fun _ => True) v7 x7_12) ∧ Aside0 (wc.heap[gb102]? = some (.cells #[.int .i64 ((rd_T26 l2 x13_1).f0), .int .i64 ((rd_T26 l2 x13_1).f1), .int .i64 ((rd_T26 l2 x13_1).f2), .bool ((rd_T26 l2 x13_1).f3)] 26 (0, 0))) ∧ Aside0 (Below w.heap.size w wc))
                case first =>
                  have H := HC13.out
                  clear HC13
                  by_cases c14 : x23_6 = true
                  · subst c14
                    have H1 : (if x7_1.length < 5864062014805 then (pump_Plan.j2 kj6 x0_1 a1 (x7_1 ++ [(⟨((rd_T26 l2 x13_1).f0), 0, true⟩ : S34)]) l2 (l2.length : Int) x13_1 ((rd_T26 l2 x13_1).f0) ((rd_T26 l2 x13_1).f1) ((rd_T26 l2 x13_1).f2) ((rd_T26 l2 x13_1).f3)) else (none)) = some r := by rw [if_pos rfl] at H; exact H
                    clear H
                    have H := H1
                    clear H1
                    by_cases c15 : x7_1.length < 5864062014805
                    · rw [if_pos c15] at H
                      have LMc15 := Aside0.mk c15
                      clear c15
                      obtain ⟨y103, hy103⟩ : ∃ y_ : List (S34), y_ = (x7_1 ++ [(⟨((rd_T26 l2 x13_1).f0), 0, true⟩ : S34)]) := ⟨_, rfl⟩
                      replace H : (pump_Plan.j2 kj6 x0_1 a1 y103 l2 (l2.length : Int) x13_1 ((rd_T26 l2 x13_1).f0) ((rd_T26 l2 x13_1).f1) ((rd_T26 l2 x13_1).f2) ((rd_T26 l2 x13_1).f3)) = some r := by first | (rw [hy103]; with_reducible exact H) | (have H2_ := (Option.bind_some _ _).symm.trans H; rw [hy103]; with_reducible exact H2_) | (have H2_ := (Option.bind_some _ _).symm.trans H; with_reducible exact H2_) | with_reducible exact H | (rw [hy103]; exact H) | exact H
                      have Ny103 := Aside0.mk hy103
                      clear hy103
                      have H' := Aside0.mk H
                      clear H
                      have hcz16_0 : wc.cell? ⟨gb102, 0, none⟩ = some (.int .i64 ((rd_T26 l2 x13_1).f0)) := (blk_cell BK102.out 0).trans rfl
                      have hcz16_1 : wc.cell? ⟨gb102, 1, none⟩ = some (.int .i64 ((rd_T26 l2 x13_1).f1)) := (blk_cell BK102.out 1).trans rfl
                      have hcz16_2 : wc.cell? ⟨gb102, 2, none⟩ = some (.int .i64 ((rd_T26 l2 x13_1).f2)) := (blk_cell BK102.out 2).trans rfl
                      have hcz16_3 : wc.cell? ⟨gb102, 3, none⟩ = some (.bool ((rd_T26 l2 x13_1).f3)) := (blk_cell BK102.out 3).trans rfl
                      have hfz16_0 := blk_frozen BK102.out 0
                      have hfz16_1 := blk_frozen BK102.out 1
                      have hfz16_2 := blk_frozen BK102.out 2
                      have hfz16_3 := blk_frozen BK102.out 3
                      go_wp2_with (first | ((with_reducible refine gate_builtin (b := .append) (xs := #[.tmp 24, .tmp 28]) rfl ?_); at_builtin; refine Kd.R_append k34 (w0 := w) w.heap.size rfl (.tmp 24) (.tmp 28) 31 34 (.agg #[(.int .i64 0), (.int .i64 0), (.bool false)]) 24 rfl Try.underlying31 info34 rfl (by decide) (by omega) u7 x7_1 (⟨((rd_T26 l2 x13_1).f0), 0, true⟩ : S34) [.int .i64 ((rd_T26 l2 x13_1).f0), .int .i64 0, .bool true] (fun _ => True) (fun _ => False) rfl rfl ?aP (fun _ hk => hk.elim) ?aF ?aO ?aB ?aS ?aL ?_; (case aP => exact k34_mkM _ _ _ (⟨((rd_T26 l2 x13_1).f0), 0, true⟩ : S34)); (case aB => exact (by repeat (first | (with_reducible first | exact HB.out | apply below_alloc | apply pw_below_drewN | apply below_drew1 | refine below_set ?_ GE102.out) | exact HB.out))); (case aF => exact (fun _ _ => trivial)); (case aO => exact (by (with_reducible repeat (first | apply Kd.R_alloc | apply Kd.R_drewN | apply Kd.R_drew)); exact HO_7.out)); (case aS => exact (below_size (by repeat (first | (with_reducible first | exact HB.out | apply below_alloc | apply pw_below_drewN | apply below_drew1 | refine below_set ?_ GE102.out) | exact HB.out)))); (case aL => have := LMc15.out; omega); intro v104 w17 ho hb hg hat; rw [← Ny103.out] at ho; have n0_ := Aside0.mk (blk_grown (g := gb102) (o := .cells #[.int .i64 ((rd_T26 l2 x13_1).f0), .int .i64 ((rd_T26 l2 x13_1).f1), .int .i64 ((rd_T26 l2 x13_1).f2), .bool ((rd_T26 l2 x13_1).f3)] 26 (0, 0)) (by (with_reducible repeat (first | refine blk_drewN ?_ _ | refine blk_drew ?_ | refine blk_alloc ?_ _)); exact BK102.out) hg (Kd.R_ne HO_7.out BK102.out (by decide))); have n1_ := Aside0.mk (hb); have n2_ := Aside0.mk (ho); clear BK102; clear HB; clear HO_7; have BK102 := n0_; have HB := n1_; have HO105 := n2_; clear n0_ n1_ n2_; clear ho hb hg hat))
                      go_meet
                      case rel => exact ⟨_, (y103), H', ⟨by have := HK1.out; have := HJ6.out; first | omega | exact Nat.le_refl _⟩, ⟨by (with_reducible repeat (first | apply Kd.R_alloc | apply Kd.R_drewN | apply Kd.R_drew)); exact HO105.out⟩, ⟨by (with_reducible repeat (first | refine blk_drewN ?_ _ | refine blk_drew ?_ | refine blk_alloc ?_ _)); exact BK102.out⟩, ⟨by repeat (first | (with_reducible first | exact HB.out | apply below_alloc | apply pw_below_drewN | apply below_drew1 | refine below_set ?_ GE102.out) | exact HB.out)⟩⟩
                    · rw [if_neg c15] at H
                      exact absurd H (by simp)
                  · replace c14 := Bool.eq_false_iff.mpr c14
                    subst c14
                    have H1 : (pump_Plan.j2 kj6 x0_1 a1 x7_1 l2 (l2.length : Int) x13_1 ((rd_T26 l2 x13_1).f0) ((rd_T26 l2 x13_1).f1) ((rd_T26 l2 x13_1).f2) ((rd_T26 l2 x13_1).f3)) = some r := by rw [if_neg (show ¬ (false = true) by decide)] at H; exact H
                    clear H
                    have H := H1
                    clear H1
                    have H' := Aside0.mk H
                    clear H
                    go_wp2
                    go_meet
                    case rel => exact ⟨_, (x7_1), H', ⟨by have := HK1.out; have := HJ6.out; first | omega | exact Nat.le_refl _⟩, ⟨by (with_reducible repeat (first | apply Kd.R_alloc | apply Kd.R_drewN | apply Kd.R_drew)); exact HO_7.out⟩, ⟨by (with_reducible repeat (first | refine blk_drewN ?_ _ | refine blk_drew ?_ | refine blk_alloc ?_ _)); exact BK102.out⟩, ⟨by repeat (first | (with_reducible first | exact HB.out | apply below_alloc | apply pw_below_drewN | apply below_drew1 | refine below_set ?_ GE102.out) | exact HB.out)⟩⟩
                case rest =>
                  clear HC13
                  try clear c1
                  try clear p1
                  try clear q1
                  try clear hx1
                  try clear c2
                  try clear p2
                  try clear c4
                  try clear c4b0
                  try clear c5
                  try clear c5b0
                  try clear c6
                  try clear c6b0
                  try clear c10
                  try clear c10b0
                  try clear c10b1
                  try clear p10
                  try clear q10
                  try clear hx10
                  try clear c11
                  try clear c14
                  try clear c15
                  try clear hcz11_0
                  try clear hcz11_1
                  try clear hcz11_2
                  try clear hcz11_3
                  try clear hcz12_0
                  try clear hcz12_1
                  try clear hcz12_2
                  try clear hcz12_3
                  try clear hcz16_0
                  try clear hcz16_1
                  try clear hcz16_2
                  try clear hcz16_3
                  try clear hcz9_0
                  try clear hcz9_1
                  try clear hcz9_2
                  try clear hcz9_3
                  try clear hfz11_0
                  try clear hfz11_1
                  try clear hfz11_2
                  try clear hfz11_3
                  try clear hfz12_0
                  try clear hfz12_1
                  try clear hfz12_2
                  try clear hfz12_3
                  try clear hfz16_0
                  try clear hfz16_1
                  try clear hfz16_2
                  try clear hfz16_3
                  try clear hfz9_0
                  try clear hfz9_1
                  try clear hfz9_2
                  try clear hfz9_3
                  try clear hx101_0
                  try clear hx101_1
                  try clear hx101_2
                  try clear hx101_3
                  try clear p1
                  try clear p10
                  try clear p101
                  try clear p2
                  try clear q1
                  try clear q10
                  try clear q101
                  obtain ⟨kq, x7_12, HA, HJ12, HO_7, BK102, HB⟩ := hcut
                  cases kq with
                  | zero => exact absurd HA.out (by simp [pump_Plan.j2])
                  | succ kj12 =>
                    have H := HA.out
                    clear HA
                    simp only [pump_Plan.j2] at H
                    obtain ⟨ji18, hji18⟩ : ∃ j_ : Int, (mn ((rd_T26 l2 x13_1).f2) ((rd_T26 l2 x13_1).f1)) = j_ := ⟨_, rfl⟩
                    replace H : (pump_Plan.l1 kj12 x0_1 a1 x7_12 (mn (mn (ji18) x0_1) a1) l2 (l2.length : Int) x13_1 ((rd_T26 l2 x13_1).f0) ((rd_T26 l2 x13_1).f1) ((rd_T26 l2 x13_1).f2) ((rd_T26 l2 x13_1).f3)) = some r := by first | (rw [hji18] at H; exact H) | (simp only [hji18] at H ⊢; exact H)
                    have hji18_ : (if ((rd_T26 l2 x13_1).f1) < ((rd_T26 l2 x13_1).f2) then ((rd_T26 l2 x13_1).f1) else ((rd_T26 l2 x13_1).f2)) = ji18 := hji18
                    obtain ⟨ji19, hji19⟩ : ∃ j_ : Int, (mn (ji18) x0_1) = j_ := ⟨_, rfl⟩
                    replace H : (pump_Plan.l1 kj12 x0_1 a1 x7_12 (mn (ji19) a1) l2 (l2.length : Int) x13_1 ((rd_T26 l2 x13_1).f0) ((rd_T26 l2 x13_1).f1) ((rd_T26 l2 x13_1).f2) ((rd_T26 l2 x13_1).f3)) = some r := by first | (rw [hji19] at H; exact H) | (simp only [hji19] at H ⊢; exact H)
                    have hji19_ : (if x0_1 < (ji18) then x0_1 else (ji18)) = ji19 := hji19
                    obtain ⟨ji20, hji20⟩ : ∃ j_ : Int, (mn (ji19) a1) = j_ := ⟨_, rfl⟩
                    replace H : (pump_Plan.l1 kj12 x0_1 a1 x7_12 ji20 l2 (l2.length : Int) x13_1 ((rd_T26 l2 x13_1).f0) ((rd_T26 l2 x13_1).f1) ((rd_T26 l2 x13_1).f2) ((rd_T26 l2 x13_1).f3)) = some r := by first | (rw [hji20] at H; exact H) | (simp only [hji20] at H ⊢; exact H)
                    have hji20_ : (if a1 < (ji19) then a1 else (ji19)) = ji20 := hji20
                    have H' := Aside0.mk H
                    clear H
                    have hcz21_0 : wc.cell? ⟨gb102, 0, none⟩ = some (.int .i64 ((rd_T26 l2 x13_1).f0)) := (blk_cell BK102.out 0).trans rfl
                    have hcz21_1 : wc.cell? ⟨gb102, 1, none⟩ = some (.int .i64 ((rd_T26 l2 x13_1).f1)) := (blk_cell BK102.out 1).trans rfl
                    have hcz21_2 : wc.cell? ⟨gb102, 2, none⟩ = some (.int .i64 ((rd_T26 l2 x13_1).f2)) := (blk_cell BK102.out 2).trans rfl
                    have hcz21_3 : wc.cell? ⟨gb102, 3, none⟩ = some (.bool ((rd_T26 l2 x13_1).f3)) := (blk_cell BK102.out 3).trans rfl
                    have hfz21_0 := blk_frozen BK102.out 0
                    have hfz21_1 := blk_frozen BK102.out 1
                    have hfz21_2 := blk_frozen BK102.out 2
                    have hfz21_3 := blk_frozen BK102.out 3
                    go_wp2
                    go_loopg [0, 7, 10] kj12 (fun kq v0 v7 v10 w' => ∃ (x0_4 : Int) (x7_4 : List (S34)) (x10_4 : Int) (x103001_4 : Int) (x103002_4 : Int), v0 = .int .i64 x0_4 ∧ v10 = .int .i64 x10_4 ∧ Aside0 (pump_Plan.l1 kq x0_4 a1 x7_4 x10_4 l2 (l2.length : Int) x13_1 ((rd_T26 l2 x13_1).f0) x103001_4 x103002_4 ((rd_T26 l2 x13_1).f3) = some r) ∧ Aside0 (kq ≤ kj12) ∧ Aside0 (Kd.R k34 34 w' w.heap.size (fun _ => True) v7 x7_4) ∧ Aside0 (w'.heap[gb102]? = some (.cells #[.int .i64 ((rd_T26 l2 x13_1).f0), .int .i64 x103001_4, .int .i64 x103002_4, .bool ((rd_T26 l2 x13_1).f3)] 26 (0, 0))) ∧ Aside0 (Below w.heap.size w w'))
                    case atStart => exact ⟨(x0_1), (x7_12), (ji20), (((rd_T26 l2 x13_1).f1)), (((rd_T26 l2 x13_1).f2)), (by first | rfl | (simp; done) | (simp [*]; done)), (by first | rfl | (simp; done) | (simp only [← hji20] <;> (first | rfl | simp)) | (simp [*]; done)), H', ⟨Nat.le_refl _⟩, ⟨by (with_reducible repeat (first | apply Kd.R_alloc | apply Kd.R_drewN | apply Kd.R_drew)); exact HO_7.out⟩, ⟨by (with_reducible repeat (first | refine blk_drewN ?_ _ | refine blk_drew ?_ | refine blk_alloc ?_ _)); exact BK102.out⟩, ⟨by repeat (first | (with_reducible first | exact HB.out | apply below_alloc | apply pw_below_drewN | apply below_drew1 | refine below_set ?_ GE102.out) | exact HB.out)⟩⟩
                    case round =>
                      clear H'
                      try clear c1
                      try clear p1
                      try clear q1
                      try clear hx1
                      try clear c2
                      try clear p2
                      try clear c4
                      try clear c4b0
                      try clear c5
                      try clear c5b0
                      try clear c6
                      try clear c6b0
                      try clear c10
                      try clear c10b0
                      try clear c10b1
                      try clear p10
                      try clear q10
                      try clear hx10
                      try clear c11
                      try clear c14
                      try clear c15
                      try clear hcz11_0
                      try clear hcz11_1
                      try clear hcz11_2
                      try clear hcz11_3
                      try clear hcz12_0
                      try clear hcz12_1
                      try clear hcz12_2
                      try clear hcz12_3
                      try clear hcz16_0
                      try clear hcz16_1
                      try clear hcz16_2
                      try clear hcz16_3
                      try clear hcz21_0
                      try clear hcz21_1
                      try clear hcz21_2
                      try clear hcz21_3
                      try clear hcz9_0
                      try clear hcz9_1
                      try clear hcz9_2
                      try clear hcz9_3
                      try clear hfz11_0
                      try clear hfz11_1
                      try clear hfz11_2
                      try clear hfz11_3
                      try clear hfz12_0
                      try clear hfz12_1
                      try clear hfz12_2
                      try clear hfz12_3
                      try clear hfz16_0
                      try clear hfz16_1
                      try clear hfz16_2
                      try clear hfz16_3
                      try clear hfz21_0
                      try clear hfz21_1
                      try clear hfz21_2
                      try clear hfz21_3
                      try clear hfz9_0
                      try clear hfz9_1
                      try clear hfz9_2
                      try clear hfz9_3
                      try clear hx101_0
                      try clear hx101_1
                      try clear hx101_2
                      try clear hx101_3
                      try clear p1
                      try clear p10
                      try clear p101
                      try clear p2
                      try clear q1
                      try clear q10
                      try clear q101
                      obtain ⟨x0_4, x7_4, x10_4, x103001_4, x103002_4, rfl, rfl, HA, HK4, HO_7, BK102, HB⟩ := hrel
                      cases gk with
                      | zero => exact absurd HA.out (by simp [pump_Plan.l1])
                      | succ k4 =>
                        have H := HA.out
                        clear HA
                        simp only [pump_Plan.l1] at H
                        by_cases c22 : x10_4 > 0
                        · rw [if_pos c22] at H
                          have c22b0 : decide (0 < x10_4) = true := decide_eq_true c22
                          clear c22
                          by_cases c23 : (wrap64 (x103002_4 - x10_4)) = 0
                          · rw [if_pos c23] at H
                            have c23b0 : ((wrap64 (x103002_4 - x10_4)) == 0) = true := beq_iff_eq.mpr c23
                            have c23b1 : ((wrap64 (x103002_4 - x10_4)) != 0) = false := bne_eq_false_iff_eq.mpr c23
                            clear c23
                            by_cases c24 : x7_4.length < 5864062014805
                            · rw [if_pos c24] at H
                              have LMc24 := Aside0.mk c24
                              clear c24
                              obtain ⟨y106, hy106⟩ : ∃ y_ : List (S34), y_ = (x7_4 ++ [(⟨((rd_T26 l2 x13_1).f0), x10_4, ((rd_T26 l2 x13_1).f3)⟩ : S34)]) := ⟨_, rfl⟩
                              replace H : (pump_Plan.l1 k4 (wrap64 (x0_4 - x10_4)) a1 y106 (mn (mn (mn (wrap64 (x103002_4 - x10_4)) (wrap64 (x103001_4 - x10_4))) (wrap64 (x0_4 - x10_4))) a1) l2 (l2.length : Int) x13_1 ((rd_T26 l2 x13_1).f0) (wrap64 (x103001_4 - x10_4)) (wrap64 (x103002_4 - x10_4)) ((rd_T26 l2 x13_1).f3)) = some r := by first | (rw [hy106]; with_reducible exact H) | (have H2_ := (Option.bind_some _ _).symm.trans H; rw [hy106]; with_reducible exact H2_) | (have H2_ := (Option.bind_some _ _).symm.trans H; with_reducible exact H2_) | with_reducible exact H | (rw [hy106]; exact H) | exact H
                              have Ny106 := Aside0.mk hy106
                              clear hy106
                              obtain ⟨ji25, hji25⟩ : ∃ j_ : Int, (mn (wrap64 (x103002_4 - x10_4)) (wrap64 (x103001_4 - x10_4))) = j_ := ⟨_, rfl⟩
                              replace H : (pump_Plan.l1 k4 (wrap64 (x0_4 - x10_4)) a1 y106 (mn (mn (ji25) (wrap64 (x0_4 - x10_4))) a1) l2 (l2.length : Int) x13_1 ((rd_T26 l2 x13_1).f0) (wrap64 (x103001_4 - x10_4)) (wrap64 (x103002_4 - x10_4)) ((rd_T26 l2 x13_1).f3)) = some r := by first | (rw [hji25] at H; exact H) | (simp only [hji25] at H ⊢; exact H)
                              have hji25_ : (if (wrap64 (x103001_4 - x10_4)) < (wrap64 (x103002_4 - x10_4)) then (wrap64 (x103001_4 - x10_4)) else (wrap64 (x103002_4 - x10_4))) = ji25 := hji25
                              obtain ⟨ji26, hji26⟩ : ∃ j_ : Int, (mn (ji25) (wrap64 (x0_4 - x10_4))) = j_ := ⟨_, rfl⟩
                              replace H : (pump_Plan.l1 k4 (wrap64 (x0_4 - x10_4)) a1 y106 (mn (ji26) a1) l2 (l2.length : Int) x13_1 ((rd_T26 l2 x13_1).f0) (wrap64 (x103001_4 - x10_4)) (wrap64 (x103002_4 - x10_4)) ((rd_T26 l2 x13_1).f3)) = some r := by first | (rw [hji26] at H; exact H) | (simp only [hji26] at H ⊢; exact H)
                              have hji26_ : (if (wrap64 (x0_4 - x10_4)) < (ji25) then (wrap64 (x0_4 - x10_4)) else (ji25)) = ji26 := hji26
                              obtain ⟨ji27, hji27⟩ : ∃ j_ : Int, (mn (ji26) a1) = j_ := ⟨_, rfl⟩
                              replace H : (pump_Plan.l1 k4 (wrap64 (x0_4 - x10_4)) a1 y106 ji27 l2 (l2.length : Int) x13_1 ((rd_T26 l2 x13_1).f0) (wrap64 (x103001_4 - x10_4)) (wrap64 (x103002_4 - x10_4)) ((rd_T26 l2 x13_1).f3)) = some r := by first | (rw [hji27] at H; exact H) | (simp only [hji27] at H ⊢; exact H)
                              have hji27_ : (if a1 < (ji26) then a1 else (ji26)) = ji27 := hji27
                              have H' := Aside0.mk H
                              clear H
                              have hcz28_0 : wr.cell? ⟨gb102, 0, none⟩ = some (.int .i64 ((rd_T26 l2 x13_1).f0)) := (blk_cell BK102.out 0).trans rfl
                              have hcz28_1 : wr.cell? ⟨gb102, 1, none⟩ = some (.int .i64 x103001_4) := (blk_cell BK102.out 1).trans rfl
                              have hcz28_2 : wr.cell? ⟨gb102, 2, none⟩ = some (.int .i64 x103002_4) := (blk_cell BK102.out 2).trans rfl
                              have hcz28_3 : wr.cell? ⟨gb102, 3, none⟩ = some (.bool ((rd_T26 l2 x13_1).f3)) := (blk_cell BK102.out 3).trans rfl
                              have hfz28_0 := blk_frozen BK102.out 0
                              have hfz28_1 := blk_frozen BK102.out 1
                              have hfz28_2 := blk_frozen BK102.out 2
                              have hfz28_3 := blk_frozen BK102.out 3
                              go_wp2_with (first | ((with_reducible refine gate_builtin (b := .append) (xs := #[.tmp 59, .tmp 71]) rfl ?_); at_builtin; refine Kd.R_append k34 (w0 := w) w.heap.size rfl (.tmp 59) (.tmp 71) 31 34 (.agg #[(.int .i64 0), (.int .i64 0), (.bool false)]) 24 rfl Try.underlying31 info34 rfl (by decide) (by omega) u7 x7_4 (⟨((rd_T26 l2 x13_1).f0), x10_4, ((rd_T26 l2 x13_1).f3)⟩ : S34) [.int .i64 ((rd_T26 l2 x13_1).f0), .int .i64 x10_4, .bool ((rd_T26 l2 x13_1).f3)] (fun _ => True) (fun _ => False) rfl (by first | (go_simp; done) | (go_simp; rfl)) ?aP (fun _ hk => hk.elim) ?aF ?aO ?aB ?aS ?aL ?_; (case aP => exact k34_mkM _ _ _ (⟨((rd_T26 l2 x13_1).f0), x10_4, ((rd_T26 l2 x13_1).f3)⟩ : S34)); (case aB => exact (by repeat (first | (with_reducible first | exact HB.out | apply below_alloc | apply pw_below_drewN | apply below_drew1 | refine below_set ?_ GE102.out) | exact HB.out))); (case aF => exact (fun _ _ => trivial)); (case aO => exact (by (with_reducible repeat (first | apply Kd.R_alloc | apply Kd.R_drewN | apply Kd.R_drew)); exact Kd.R_mono (Kd.R_far (p := ⟨gb102, 1, none⟩) (Kd.R_far (p := ⟨gb102, 2, none⟩) (Kd.R_types HO_7.out BK102.out (by decide)) (fun _ hk => hk.2) (.int .i64 (wrap64 (x103002_4 - x10_4)))) (fun _ hk => hk.2) (.int .i64 (wrap64 (x103001_4 - x10_4)))) (fun _ hk => trivial))); (case aS => exact (below_size (by repeat (first | (with_reducible first | exact HB.out | apply below_alloc | apply pw_below_drewN | apply below_drew1 | refine below_set ?_ GE102.out) | exact HB.out)))); (case aL => have := LMc24.out; omega); intro v107 w29 ho hb hg hat; rw [← Ny106.out] at ho; have n0_ := Aside0.mk (blk_grown (g := gb102) (o := .cells #[.int .i64 ((rd_T26 l2 x13_1).f0), .int .i64 (wrap64 (x103001_4 - x10_4)), .int .i64 (wrap64 (x103002_4 - x10_4)), .bool ((rd_T26 l2 x13_1).f3)] 26 (0, 0)) (by (with_reducible repeat (first | refine blk_drewN ?_ _ | refine blk_drew ?_ | refine blk_alloc ?_ _)); refine blk_put (cs := #[.int .i64 ((rd_T26 l2 x13_1).f0), .int .i64 x103001_4, .int .i64 (wrap64 (x103002_4 - x10_4)), .bool ((rd_T26 l2 x13_1).f3)]) ?_ 1 _ rfl; (with_reducible repeat (first | refine blk_drewN ?_ _ | refine blk_drew ?_ | refine blk_alloc ?_ _)); refine blk_put (cs := #[.int .i64 ((rd_T26 l2 x13_1).f0), .int .i64 x103001_4, .int .i64 x103002_4, .bool ((rd_T26 l2 x13_1).f3)]) ?_ 2 _ rfl; (with_reducible repeat (first | refine blk_drewN ?_ _ | refine blk_drew ?_ | refine blk_alloc ?_ _)); exact BK102.out) hg (Kd.R_ne HO_7.out BK102.out (by decide))); have n1_ := Aside0.mk (hb); have n2_ := Aside0.mk (ho); clear BK102; clear HB; clear HO_7; have BK102 := n0_; have HB := n1_; have HO108 := n2_; clear n0_ n1_ n2_; clear ho hb hg hat; have hcz30_0 : w29.cell? ⟨gb102, 0, none⟩ = some (.int .i64 ((rd_T26 l2 x13_1).f0)) := (blk_cell BK102.out 0).trans rfl; have hcz30_1 : w29.cell? ⟨gb102, 1, none⟩ = some (.int .i64 (wrap64 (x103001_4 - x10_4))) := (blk_cell BK102.out 1).trans rfl; have hcz30_2 : w29.cell? ⟨gb102, 2, none⟩ = some (.int .i64 (wrap64 (x103002_4 - x10_4))) := (blk_cell BK102.out 2).trans rfl; have hcz30_3 : w29.cell? ⟨gb102, 3, none⟩ = some (.bool ((rd_T26 l2 x13_1).f3)) := (blk_cell BK102.out 3).trans rfl; have hfz30_0 := blk_frozen BK102.out 0; have hfz30_1 := blk_frozen BK102.out 1; have hfz30_2 := blk_frozen BK102.out 2; have hfz30_3 := blk_frozen BK102.out 3))
                              go_roundg k4
                              case measure => have := HK1.out; have := HJ6.out; have := HJ12.out; have := HK4.out; omega
                              case rel => exact ⟨(wrap64 (x0_4 - x10_4)), (y106), (ji27), (wrap64 (x103001_4 - x10_4)), (wrap64 (x103002_4 - x10_4)), (by first | rfl | (simp; done) | (simp [*]; done)), (by first | rfl | (simp; done) | (simp only [← hji27] <;> (first | rfl | simp)) | (simp [*]; done)), H', ⟨by have := HK1.out; have := HJ6.out; have := HJ12.out; have := HK4.out; omega⟩, ⟨by (with_reducible repeat (first | apply Kd.R_alloc | apply Kd.R_drewN | apply Kd.R_drew)); exact HO108.out⟩, ⟨by (with_reducible repeat (first | refine blk_drewN ?_ _ | refine blk_drew ?_ | refine blk_alloc ?_ _)); exact BK102.out⟩, ⟨by repeat (first | (with_reducible first | exact HB.out | apply below_alloc | apply pw_below_drewN | apply below_drew1 | refine below_set ?_ GE102.out) | exact HB.out)⟩⟩
                            · rw [if_neg c24] at H
                              exact absurd H (by simp)
                          · rw [if_neg c23] at H
                            have c23b0 : ((wrap64 (x103002_4 - x10_4)) == 0) = false := beq_eq_false_iff_ne.mpr c23
                            have c23b1 : ((wrap64 (x103002_4 - x10_4)) != 0) = true := bne_iff_ne.mpr c23
                            by_cases c31 : x7_4.length < 5864062014805
                            · rw [if_pos c31] at H
                              have LMc31 := Aside0.mk c31
                              clear c31
                              obtain ⟨y109, hy109⟩ : ∃ y_ : List (S34), y_ = (x7_4 ++ [(⟨((rd_T26 l2 x13_1).f0), x10_4, false⟩ : S34)]) := ⟨_, rfl⟩
                              replace H : (pump_Plan.l1 k4 (wrap64 (x0_4 - x10_4)) a1 y109 (mn (mn (mn (wrap64 (x103002_4 - x10_4)) (wrap64 (x103001_4 - x10_4))) (wrap64 (x0_4 - x10_4))) a1) l2 (l2.length : Int) x13_1 ((rd_T26 l2 x13_1).f0) (wrap64 (x103001_4 - x10_4)) (wrap64 (x103002_4 - x10_4)) ((rd_T26 l2 x13_1).f3)) = some r := by first | (rw [hy109]; with_reducible exact H) | (have H2_ := (Option.bind_some _ _).symm.trans H; rw [hy109]; with_reducible exact H2_) | (have H2_ := (Option.bind_some _ _).symm.trans H; with_reducible exact H2_) | with_reducible exact H | (rw [hy109]; exact H) | exact H
                              have Ny109 := Aside0.mk hy109
                              clear hy109
                              obtain ⟨ji32, hji32⟩ : ∃ j_ : Int, (mn (wrap64 (x103002_4 - x10_4)) (wrap64 (x103001_4 - x10_4))) = j_ := ⟨_, rfl⟩
                              replace H : (pump_Plan.l1 k4 (wrap64 (x0_4 - x10_4)) a1 y109 (mn (mn (ji32) (wrap64 (x0_4 - x10_4))) a1) l2 (l2.length : Int) x13_1 ((rd_T26 l2 x13_1).f0) (wrap64 (x103001_4 - x10_4)) (wrap64 (x103002_4 - x10_4)) ((rd_T26 l2 x13_1).f3)) = some r := by first | (rw [hji32] at H; exact H) | (simp only [hji32] at H ⊢; exact H)
                              have hji32_ : (if (wrap64 (x103001_4 - x10_4)) < (wrap64 (x103002_4 - x10_4)) then (wrap64 (x103001_4 - x10_4)) else (wrap64 (x103002_4 - x10_4))) = ji32 := hji32
                              obtain ⟨ji33, hji33⟩ : ∃ j_ : Int, (mn (ji32) (wrap64 (x0_4 - x10_4))) = j_ := ⟨_, rfl⟩
                              replace H : (pump_Plan.l1 k4 (wrap64 (x0_4 - x10_4)) a1 y109 (mn (ji33) a1) l2 (l2.length : Int) x13_1 ((rd_T26 l2 x13_1).f0) (wrap64 (x103001_4 - x10_4)) (wrap64 (x103002_4 - x10_4)) ((rd_T26 l2 x13_1).f3)) = some r := by first | (rw [hji33] at H; exact H) | (simp only [hji33] at H ⊢; exact H)
                              have hji33_ : (if (wrap64 (x0_4 - x10_4)) < (ji32) then (wrap64 (x0_4 - x10_4)) else (ji32)) = ji33 := hji33
                              obtain ⟨ji34, hji34⟩ : ∃ j_ : Int, (mn (ji33) a1) = j_ := ⟨_, rfl⟩
                              replace H : (pump_Plan.l1 k4 (wrap64 (x0_4 - x10_4)) a1 y109 ji34 l2 (l2.length : Int) x13_1 ((rd_T26 l2 x13_1).f0) (wrap64 (x103001_4 - x10_4)) (wrap64 (x103002_4 - x10_4)) ((rd_T26 l2 x13_1).f3)) = some r := by first | (rw [hji34] at H; exact H) | (simp only [hji34] at H ⊢; exact H)
                              have hji34_ : (if a1 < (ji33) then a1 else (ji33)) = ji34 := hji34
                              have H' := Aside0.mk H
                              clear H
                              have hcz35_0 : wr.cell? ⟨gb102, 0, none⟩ = some (.int .i64 ((rd_T26 l2 x13_1).f0)) := (blk_cell BK102.out 0).trans rfl
                              have hcz35_1 : wr.cell? ⟨gb102, 1, none⟩ = some (.int .i64 x103001_4) := (blk_cell BK102.out 1).trans rfl
                              have hcz35_2 : wr.cell? ⟨gb102, 2, none⟩ = some (.int .i64 x103002_4) := (blk_cell BK102.out 2).trans rfl
                              have hcz35_3 : wr.cell? ⟨gb102, 3, none⟩ = some (.bool ((rd_T26 l2 x13_1).f3)) := (blk_cell BK102.out 3).trans rfl
                              have hfz35_0 := blk_frozen BK102.out 0
                              have hfz35_1 := blk_frozen BK102.out 1
                              have hfz35_2 := blk_frozen BK102.out 2
                              have hfz35_3 := blk_frozen BK102.out 3
                              go_wp2_with (first | ((with_reducible refine gate_builtin (b := .append) (xs := #[.tmp 59, .tmp 71]) rfl ?_); at_builtin; refine Kd.R_append k34 (w0 := w) w.heap.size rfl (.tmp 59) (.tmp 71) 31 34 (.agg #[(.int .i64 0), (.int .i64 0), (.bool false)]) 24 rfl Try.underlying31 info34 rfl (by decide) (by omega) u7 x7_4 (⟨((rd_T26 l2 x13_1).f0), x10_4, false⟩ : S34) [.int .i64 ((rd_T26 l2 x13_1).f0), .int .i64 x10_4, .bool false] (fun _ => True) (fun _ => False) rfl (by first | (go_simp; done) | (go_simp; rfl)) ?aP (fun _ hk => hk.elim) ?aF ?aO ?aB ?aS ?aL ?_; (case aP => exact k34_mkM _ _ _ (⟨((rd_T26 l2 x13_1).f0), x10_4, false⟩ : S34)); (case aB => exact (by repeat (first | (with_reducible first | exact HB.out | apply below_alloc | apply pw_below_drewN | apply below_drew1 | refine below_set ?_ GE102.out) | exact HB.out))); (case aF => exact (fun _ _ => trivial)); (case aO => exact (by (with_reducible repeat (first | apply Kd.R_alloc | apply Kd.R_drewN | apply Kd.R_drew)); exact Kd.R_mono (Kd.R_far (p := ⟨gb102, 1, none⟩) (Kd.R_far (p := ⟨gb102, 2, none⟩) (Kd.R_types HO_7.out BK102.out (by decide)) (fun _ hk => hk.2) (.int .i64 (wrap64 (x103002_4 - x10_4)))) (fun _ hk => hk.2) (.int .i64 (wrap64 (x103001_4 - x10_4)))) (fun _ hk => trivial))); (case aS => exact (below_size (by repeat (first | (with_reducible first | exact HB.out | apply below_alloc | apply pw_below_drewN | apply below_drew1 | refine below_set ?_ GE102.out) | exact HB.out)))); (case aL => have := LMc31.out; omega); intro v110 w36 ho hb hg hat; rw [← Ny109.out] at ho; have n0_ := Aside0.mk (blk_grown (g := gb102) (o := .cells #[.int .i64 ((rd_T26 l2 x13_1).f0), .int .i64 (wrap64 (x103001_4 - x10_4)), .int .i64 (wrap64 (x103002_4 - x10_4)), .bool ((rd_T26 l2 x13_1).f3)] 26 (0, 0)) (by (with_reducible repeat (first | refine blk_drewN ?_ _ | refine blk_drew ?_ | refine blk_alloc ?_ _)); refine blk_put (cs := #[.int .i64 ((rd_T26 l2 x13_1).f0), .int .i64 x103001_4, .int .i64 (wrap64 (x103002_4 - x10_4)), .bool ((rd_T26 l2 x13_1).f3)]) ?_ 1 _ rfl; (with_reducible repeat (first | refine blk_drewN ?_ _ | refine blk_drew ?_ | refine blk_alloc ?_ _)); refine blk_put (cs := #[.int .i64 ((rd_T26 l2 x13_1).f0), .int .i64 x103001_4, .int .i64 x103002_4, .bool ((rd_T26 l2 x13_1).f3)]) ?_ 2 _ rfl; (with_reducible repeat (first | refine blk_drewN ?_ _ | refine blk_drew ?_ | refine blk_alloc ?_ _)); exact BK102.out) hg (Kd.R_ne HO_7.out BK102.out (by decide))); have n1_ := Aside0.mk (hb); have n2_ := Aside0.mk (ho); clear BK102; clear HB; clear HO_7; have BK102 := n0_; have HB := n1_; have HO111 := n2_; clear n0_ n1_ n2_; clear ho hb hg hat; have hcz37_0 : w36.cell? ⟨gb102, 0, none⟩ = some (.int .i64 ((rd_T26 l2 x13_1).f0)) := (blk_cell BK102.out 0).trans rfl; have hcz37_1 : w36.cell? ⟨gb102, 1, none⟩ = some (.int .i64 (wrap64 (x103001_4 - x10_4))) := (blk_cell BK102.out 1).trans rfl; have hcz37_2 : w36.cell? ⟨gb102, 2, none⟩ = some (.int .i64 (wrap64 (x103002_4 - x10_4))) := (blk_cell BK102.out 2).trans rfl; have hcz37_3 : w36.cell? ⟨gb102, 3, none⟩ = some (.bool ((rd_T26 l2 x13_1).f3)) := (blk_cell BK102.out 3).trans rfl; have hfz37_0 := blk_frozen BK102.out 0; have hfz37_1 := blk_frozen BK102.out 1; have hfz37_2 := blk_frozen BK102.out 2; have hfz37_3 := blk_frozen BK102.out 3))
                              go_roundg k4
                              case measure => have := HK1.out; have := HJ6.out; have := HJ12.out; have := HK4.out; omega
                              case rel => exact ⟨(wrap64 (x0_4 - x10_4)), (y109), (ji34), (wrap64 (x103001_4 - x10_4)), (wrap64 (x103002_4 - x10_4)), (by first | rfl | (simp; done) | (simp [*]; done)), (by first | rfl | (simp; done) | (simp only [← hji34] <;> (first | rfl | simp)) | (simp [*]; done)), H', ⟨by have := HK1.out; have := HJ6.out; have := HJ12.out; have := HK4.out; omega⟩, ⟨by (with_reducible repeat (first | apply Kd.R_alloc | apply Kd.R_drewN | apply Kd.R_drew)); exact HO111.out⟩, ⟨by (with_reducible repeat (first | refine blk_drewN ?_ _ | refine blk_drew ?_ | refine blk_alloc ?_ _)); exact BK102.out⟩, ⟨by repeat (first | (with_reducible first | exact HB.out | apply below_alloc | apply pw_below_drewN | apply below_drew1 | refine below_set ?_ GE102.out) | exact HB.out)⟩⟩
                            · rw [if_neg c31] at H
                              exact absurd H (by simp)
                        · rw [if_neg c22] at H
                          have c22b0 : decide (0 < x10_4) = false := decide_eq_false c22
                          clear c22
                          have H' := Aside0.mk H
                          clear H
                          go_wp2
                          go_roundg k4
                          case measure => have := HK1.out; have := HJ6.out; have := HJ12.out; have := HK4.out; omega
                          case rel => exact ⟨(x0_4), (x7_4), (wrap64 (x13_1 + 1)), (by first | rfl | (simp; done) | (simp [*]; done)), (by first | rfl | (simp; done) | (simp [*]; done)), H', ⟨by have := HK1.out; have := HJ6.out; have := HJ12.out; have := HK4.out; omega⟩, ⟨by (with_reducible repeat (first | apply Kd.R_alloc | apply Kd.R_drewN | apply Kd.R_drew)); exact HO_7.out⟩, ⟨by repeat (first | (with_reducible first | exact HB.out | apply below_alloc | apply pw_below_drewN | apply below_drew1 | refine below_set ?_ GE102.out) | exact HB.out)⟩⟩
          · rw [if_neg c6] at H
            exact absurd H (by simp)
        · rw [if_neg c5] at H
          exact absurd H (by simp)
      · rw [if_neg c4] at H
        have c4b0 : decide (x13_1 < (l2.length : Int)) = false := decide_eq_false c4
        clear c4
        obtain rfl := Option.some.inj H
        go_wp2
        go_ret
        exact ⟨_, by first | rfl | (simp [errW_none, errW_some] <;> rfl) | (simp [*, errW_none, errW_some] <;> rfl), by (with_reducible repeat (first | apply Kd.R_alloc | apply Kd.R_drewN | apply Kd.R_drew)); exact HO_7.out, by repeat (first | (with_reducible first | exact HB.out | apply below_alloc | apply pw_below_drewN | apply below_drew1) | exact HB.out)⟩

/-! ### pump_Sum: function 12 -/
def pump_Sum.l0 : Nat → Int → List (S34) → Int → Int → Option (Int)
  | 0, _, _, _, _ => none
  | k + 1, x3, x6, x7, x8 => if x8 < x7 then (if 0 ≤ x8 then (if x8 < (x6.length : Int) then (pump_Sum.l0 k (wrap64 (x3 + ((rd_T34 x6 x8).f1))) x6 x7 (wrap64 (x8 + 1))) else (none)) else (none)) else (some x3)
def pump_Sum.f (k : Nat) (l0 : List (S34)) : Option (Int) := pump_Sum.l0 k 0 l0 (l0.length : Int) 0
theorem pump_Sum.mono_l : ∀ k, (∀ y0 y1 y2 y3, LeO (pump_Sum.l0 k y0 y1 y2 y3) (pump_Sum.l0 (k + 1) y0 y1 y2 y3))
  | 0 => fun _ _ _ _ r h => by simp [pump_Sum.l0] at h
  | k + 1 => by
    have ih0 := pump_Sum.mono_l k
    · intro y0 y1 y2 y3
      unfold pump_Sum.l0
      repeat' first
      | (with_reducible exact ih0 _ _ _ _)
      | (with_reducible exact LeO.refl _)
      | (with_reducible exact LeO.none _)
      | (with_reducible refine LeO.ite ?_ ?_)
      | (with_reducible refine LeO.bind ?_ (fun _ => ?_))
      | exact ih0 _ _ _ _
      | exact LeO.none _
      | refine LeO.ite ?_ ?_
      | refine LeO.bind ?_ (fun _ => ?_)
theorem pump_Sum.mono : ∀ a0 k, LeO (pump_Sum.f k a0) (pump_Sum.f (k + 1) a0) := by
  intro a0 k
  have ih0 := pump_Sum.mono_l k
  unfold pump_Sum.f
  repeat' first
      | (with_reducible exact ih0 _ _ _ _)
      | (with_reducible exact LeO.refl _)
      | (with_reducible exact LeO.none _)
      | (with_reducible refine LeO.ite ?_ ?_)
      | (with_reducible refine LeO.bind ?_ (fun _ => ?_))
      | exact ih0 _ _ _ _
      | exact LeO.none _
      | refine LeO.ite ?_ ?_
      | refine LeO.bind ?_ (fun _ => ?_)
set_option maxHeartbeats 8000000 in
set_option maxRecDepth 100000 in
theorem pump_Sum.calls (k : Nat) (A0 : Option Addr) (c0 : Nat) (l0 : List (S34)) (r : Int) (w : World) (hr0 : Kd.C k34 w A0 l0.length l0) (hc0 : l0.length ≤ c0) (h : pump_Sum.f k l0 = some r) :
    Calls Try.prog 12 #[.slice A0 l0.length c0] w fun e w' => e = .returned (.int .i64 r) ∧ Below w.heap.size w w' := by
  have hu34 := Try.underlying34
  have HR0 := Aside0.mk hr0
  have HC0 := Aside0.mk hc0
  clear hr0 hc0
  have HB := Aside0.mk (Below.refl w.heap.size w)
  have H : (pump_Sum.l0 k 0 l0 (l0.length : Int) 0) = some r := h
  clear h
  have H' := Aside0.mk H
  clear H
  go_enter Try.func12, Try.ntmps12
  go_wp2
  go_loopg [3, 8] k (fun kq v3 v8 w' => ∃ (x3_1 : Int) (x8_1 : Int), v3 = .int .i64 x3_1 ∧ v8 = .int .i64 x8_1 ∧ Aside0 (pump_Sum.l0 kq x3_1 l0 (l0.length : Int) x8_1 = some r) ∧ Aside0 (kq ≤ k) ∧ Aside0 (Below w.heap.size w w'))
  case atStart => exact ⟨(0), (0), (by first | rfl | (simp; done) | (simp [*]; done)), (by first | rfl | (simp; done) | (simp [*]; done)), H', ⟨Nat.le_refl _⟩, ⟨by repeat (first | (with_reducible first | exact HB.out | apply below_alloc | apply pw_below_drewN | apply below_drew1) | exact HB.out)⟩⟩
  case round =>
    clear H'
    try clear c1
    obtain ⟨x3_1, x8_1, rfl, rfl, HA, HK1, HB⟩ := hrel
    cases gk with
    | zero => exact absurd HA.out (by simp [pump_Sum.l0])
    | succ k1 =>
      have H := HA.out
      clear HA
      simp only [pump_Sum.l0] at H
      by_cases c2 : x8_1 < (l0.length : Int)
      · rw [if_pos c2] at H
        have c2b0 : decide (x8_1 < (l0.length : Int)) = true := decide_eq_true c2
        clear c2
        by_cases c3 : 0 ≤ x8_1
        · rw [if_pos c3] at H
          have c3b0 : decide (0 ≤ x8_1) = true := decide_eq_true c3
          clear c3
          by_cases c4 : x8_1 < (l0.length : Int)
          · rw [if_pos c4] at H
            have c4b0 : decide (x8_1 < (l0.length : Int)) = true := decide_eq_true c4
            clear c4
            have H' := Aside0.mk H
            clear H
            have p112 : 0 ≤ (x8_1 : Int) := of_decide_eq_true (by first | (with_reducible assumption) | assumption)
            have q112 : x8_1 < (l0.length : Int) := of_decide_eq_true (by first | (with_reducible assumption) | assumption)
            obtain ⟨ad112, e112, hx112_0, hx112_1, hx112_2⟩ := at_T34 HR0.out x8_1 p112 q112
            cases e112
            replace hx112_0 := (HB.out.cell (World.block_lt_of_cell? w _ hx112_0)).trans hx112_0
            replace hx112_1 := (HB.out.cell (World.block_lt_of_cell? w _ hx112_1)).trans hx112_1
            replace hx112_2 := (HB.out.cell (World.block_lt_of_cell? w _ hx112_2)).trans hx112_2
            replace p112 := eq_true p112
            replace q112 := eq_true q112
            go_wp2_with (first | ((with_reducible refine gate_dst (N := 5) rfl ?_); refine box_event ?hg (N := 5) ?hd (cs := #[.int .i64 0, .int .i64 0, .bool false]) (t := 34) ?hr ?_; (case hd => rfl); (case hg => rfl); (case hr => first | (go_simp; done) | (go_simp; rfl)); intro gb113 hg w5 hbox hb; have n0_ := Aside0.mk (below_step (by repeat (first | (with_reducible first | exact HB.out | apply below_alloc | apply pw_below_drewN | apply below_drew1) | exact HB.out)) hb); have n1_ := Aside0.mk (hbox); have n2_ := Aside0.mk ((by rw [hg]; exact (below_size (by repeat (first | (with_reducible first | exact HB.out | apply below_alloc | apply pw_below_drewN | apply below_drew1) | exact HB.out))) : w.heap.size ≤ gb113)); have n3_ := Aside0.mk ((by rw [hg]; exact (below_size (by repeat (first | (with_reducible first | exact HB.out | apply below_alloc | apply pw_below_drewN | apply below_drew1) | exact HB.out))) : w.heap.size ≤ gb113)); clear HB; have HB := n0_; have BK113 := n1_; have GW113 := n2_; have GE113 := n3_; clear n0_ n1_ n2_ n3_; clear hb hbox hg; have hcz6_0 : w5.cell? ⟨gb113, 0, none⟩ = some (.int .i64 0) := (blk_cell BK113.out 0).trans rfl; have hcz6_1 : w5.cell? ⟨gb113, 1, none⟩ = some (.int .i64 0) := (blk_cell BK113.out 1).trans rfl; have hcz6_2 : w5.cell? ⟨gb113, 2, none⟩ = some (.bool false) := (blk_cell BK113.out 2).trans rfl; have hfz6_0 := blk_frozen BK113.out 0; have hfz6_1 := blk_frozen BK113.out 1; have hfz6_2 := blk_frozen BK113.out 2))
            go_roundg k1
            case measure => have := HK1.out; omega
            case rel => exact ⟨(wrap64 (x3_1 + ((rd_T34 l0 x8_1).f1))), (wrap64 (x8_1 + 1)), (by first | rfl | (simp; done) | (simp [*]; done)), (by first | rfl | (simp; done) | (simp [*]; done)), H', ⟨by have := HK1.out; omega⟩, ⟨by repeat (first | (with_reducible first | exact HB.out | apply below_alloc | apply pw_below_drewN | apply below_drew1 | refine below_set ?_ GE113.out) | exact HB.out)⟩⟩
          · rw [if_neg c4] at H
            exact absurd H (by simp)
        · rw [if_neg c3] at H
          exact absurd H (by simp)
      · rw [if_neg c2] at H
        have c2b0 : decide (x8_1 < (l0.length : Int)) = false := decide_eq_false c2
        clear c2
        obtain rfl := Option.some.inj H
        go_wp2
        go_ret
        exact ⟨by first | rfl | (simp [errW_none, errW_some] <;> rfl) | (simp [*, errW_none, errW_some] <;> rfl), by repeat (first | (with_reducible first | exact HB.out | apply below_alloc | apply pw_below_drewN | apply below_drew1) | exact HB.out)⟩

/-! ### bywashlaw16_alive: function 9 -/
def bywashlaw16_alive.f (k : Nat)  : Option (Bool) := (pump_Plan.f k 100 64 (([(⟨1, 100, 80, true⟩ : S26)] : List (S26)))).bind fun t117 => (if (t117.length : Int) = 2 then (if 0 < (t117.length : Int) then (if (((rd_T34 t117 0).f0) == 1 && (((rd_T34 t117 0).f1) == 64 && (!((rd_T34 t117 0).f2)))) = true then (if 1 < (t117.length : Int) then (if (((rd_T34 t117 1).f0) == 1 && (((rd_T34 t117 1).f1) == 16 && (((rd_T34 t117 1).f2)))) = true then ((pump_Sum.f k t117).bind fun t122 => (some (t122 == 80))) else (some false)) else (none)) else (some false)) else (none)) else (some false))
theorem bywashlaw16_alive.mono : ∀ k, LeO (bywashlaw16_alive.f k ) (bywashlaw16_alive.f (k + 1) ) := by
  intro  k
  unfold bywashlaw16_alive.f
  repeat' first
      | (with_reducible exact pump_Plan.mono _ _ _ _)
      | (with_reducible exact pump_Sum.mono _ _)
      | (with_reducible exact LeO.refl _)
      | (with_reducible exact LeO.none _)
      | (with_reducible refine LeO.ite ?_ ?_)
      | (with_reducible refine LeO.bind ?_ (fun _ => ?_))
      | exact pump_Plan.mono _ _ _ _
      | exact pump_Sum.mono _ _
      | exact LeO.none _
      | refine LeO.ite ?_ ?_
      | refine LeO.bind ?_ (fun _ => ?_)
set_option maxHeartbeats 8000000 in
set_option maxRecDepth 100000 in
theorem bywashlaw16_alive.calls (k : Nat)  (r : Bool) (w : World) (h : bywashlaw16_alive.f k  = some r) :
    Calls Try.prog 9 #[] w fun e w' => e = .returned (.bool r) ∧ Below w.heap.size w w' := by
  have hu26 := Try.underlying26
  have hu34 := Try.underlying34
  have HB := Aside0.mk (Below.refl w.heap.size w)
  have H : ((pump_Plan.f k 100 64 (([(⟨1, 100, 80, true⟩ : S26)] : List (S26)))).bind fun t117 => (if (t117.length : Int) = 2 then (if 0 < (t117.length : Int) then (if (((rd_T34 t117 0).f0) == 1 && (((rd_T34 t117 0).f1) == 64 && (!((rd_T34 t117 0).f2)))) = true then (if 1 < (t117.length : Int) then (if (((rd_T34 t117 1).f0) == 1 && (((rd_T34 t117 1).f1) == 16 && (((rd_T34 t117 1).f2)))) = true then ((pump_Sum.f k t117).bind fun t122 => (some (t122 == 80))) else (some false)) else (none)) else (some false)) else (none)) else (some false))) = some r := h
  clear h
  obtain ⟨y114, hy114⟩ : ∃ y_ : List (S26), y_ = (([(⟨1, 100, 80, true⟩ : S26)] : List (S26))) := ⟨_, rfl⟩
  replace H : ((pump_Plan.f k 100 64 y114).bind fun t117 => (if (t117.length : Int) = 2 then (if 0 < (t117.length : Int) then (if (((rd_T34 t117 0).f0) == 1 && (((rd_T34 t117 0).f1) == 64 && (!((rd_T34 t117 0).f2)))) = true then (if 1 < (t117.length : Int) then (if (((rd_T34 t117 1).f0) == 1 && (((rd_T34 t117 1).f1) == 16 && (((rd_T34 t117 1).f2)))) = true then ((pump_Sum.f k t117).bind fun t122 => (some (t122 == 80))) else (some false)) else (none)) else (some false)) else (none)) else (some false))) = some r := by first | (rw [hy114]; with_reducible exact H) | (have H2_ := (Option.bind_some _ _).symm.trans H; rw [hy114]; with_reducible exact H2_) | (have H2_ := (Option.bind_some _ _).symm.trans H; with_reducible exact H2_) | with_reducible exact H | (rw [hy114]; exact H) | exact H
  have Ny114 := Aside0.mk hy114
  clear hy114
  replace H := Option.bind_eq_some_iff.mp H
  obtain ⟨t117, A10, H⟩ := H
  replace H : (if (t117.length : Int) = 2 then (if 0 < (t117.length : Int) then (if (((rd_T34 t117 0).f0) == 1 && (((rd_T34 t117 0).f1) == 64 && (!((rd_T34 t117 0).f2)))) = true then (if 1 < (t117.length : Int) then (if (((rd_T34 t117 1).f0) == 1 && (((rd_T34 t117 1).f1) == 16 && (((rd_T34 t117 1).f2)))) = true then ((pump_Sum.f k t117).bind fun t122 => (some (t122 == 80))) else (some false)) else (none)) else (some false)) else (none)) else (some false)) = some r := H
  have A1 := Aside0.mk A10
  clear A10
  by_cases c2 : (t117.length : Int) = 2
  · rw [if_pos c2] at H
    have c2b0 : ((t117.length : Int) == 2) = true := beq_iff_eq.mpr c2
    have c2b1 : ((t117.length : Int) != 2) = false := bne_eq_false_iff_eq.mpr c2
    clear c2
    by_cases c3 : 0 < (t117.length : Int)
    · rw [if_pos c3] at H
      have c3b0 : decide (0 < (t117.length : Int)) = true := decide_eq_true c3
      have c3b1 : decide (0 < t117.length) = true := decide_eq_true (by omega)
      clear c3
      by_cases c4 : (((rd_T34 t117 0).f0) == 1 && (((rd_T34 t117 0).f1) == 64 && (!((rd_T34 t117 0).f2)))) = true
      · rw [if_pos c4] at H
        have c4b0 : (((rd_T34 t117 0).f0) == 1 && (((rd_T34 t117 0).f1) == 64 && (!((rd_T34 t117 0).f2)))) = true := c4
        (try (have c4b1 : decide (((rd_T34 t117 0).f0) = 1 && (((rd_T34 t117 0).f1) == 64 && (!((rd_T34 t117 0).f2)))) = true := by simpa using c4))
        (try (have c4b2 : (((rd_T34 t117 0).f0) == 1 && (((rd_T34 t117 0).f1) == 64 && (!((rd_T34 t117 0).f2)))) = true := by simpa using c4))
        clear c4
        by_cases c5 : 1 < (t117.length : Int)
        · rw [if_pos c5] at H
          have c5b0 : decide (1 < (t117.length : Int)) = true := decide_eq_true c5
          have c5b1 : decide (1 < t117.length) = true := decide_eq_true (by omega)
          clear c5
          by_cases c6 : (((rd_T34 t117 1).f0) == 1 && (((rd_T34 t117 1).f1) == 16 && (((rd_T34 t117 1).f2)))) = true
          · rw [if_pos c6] at H
            have c6b0 : (((rd_T34 t117 1).f0) == 1 && (((rd_T34 t117 1).f1) == 16 && (((rd_T34 t117 1).f2)))) = true := c6
            (try (have c6b1 : decide (((rd_T34 t117 1).f0) = 1 && (((rd_T34 t117 1).f1) == 16 && (((rd_T34 t117 1).f2)))) = true := by simpa using c6))
            (try (have c6b2 : (((rd_T34 t117 1).f0) == 1 && (((rd_T34 t117 1).f1) == 16 && (((rd_T34 t117 1).f2)))) = true := by simpa using c6))
            clear c6
            replace H := Option.bind_eq_some_iff.mp H
            obtain ⟨t122, A70, H⟩ := H
            replace H : (some (t122 == 80)) = some r := H
            have A7 := Aside0.mk A70
            clear A70
            obtain rfl := Option.some.inj H
            go_enter Try.func9, Try.ntmps9
            go_wp2_with (first | ((with_reducible refine gate_dst (N := 3) rfl ?_); refine Kd.R_lit k26 _ 26 ?hg (N := 3) ?hd (xs := ([(⟨1, 100, 80, true⟩ : S26)] : List (S26))) (inner := [.int .i64 1, .int .i64 100, .int .i64 80, .bool true]) (ok := fun _ => True) (okp := fun _ => True) ?hr ?hp (fun _ hk => hk) trivial (Below.refl _ _) (Nat.le_refl _) (by simp) ?_; (case hd => rfl); (case hg => rfl); (case hr => first | (go_simp; done) | (go_simp; rfl)); (case hp => exact (Reps.c4 (show Kd.M k26 _ _ _ (⟨1, 100, 80, true⟩ : S26) [.int .i64 1, .int .i64 100, .int .i64 80, .bool true] from (k26_mkM _ _ _ (⟨1, 100, 80, true⟩ : S26) )) (Reps.none _ _))); intro v115 w8 ho9 hb hg_ hnew_; clear hg_ hnew_; (first | rw [← Ny114.out] at ho9 | (simp only [Int.reduceToNat] at ho9; rw [← Ny114.out] at ho9)); have n0_ := Aside0.mk (Kd.R_lower ho9 (below_size (by repeat (first | (with_reducible first | exact HB.out | apply below_alloc | apply pw_below_drewN | apply below_drew1) | exact HB.out)))); have n1_ := Aside0.mk (below_step (by repeat (first | (with_reducible first | exact HB.out | apply below_alloc | apply pw_below_drewN | apply below_drew1) | exact HB.out)) hb); clear HB; have HO116 := n0_; have HB := n1_; clear n0_ n1_; clear hb ho9; obtain ⟨Ao10, co10, eo10⟩ := Kd.R_slice HO116.out; subst eo10) | ((with_reducible refine gate_callee (f := 11) rfl ?_); refine goesL_ (some 4) rfl rfl Try.func11 (by kernel_rfl) rfl #[.int .i64 100, .int .i64 64, .slice Ao10 y114.length co10] rfl (by (try simp only [List.map_toArray, List.map_cons, List.map_nil]); first | done | rfl | (simp only [List.length_drop, List.length_take]; rfl)) ?_; (with_reducible refine (pump_Plan.calls k 100 64 _ _ y114 t117 _ ?side1 ?side2 A1.out).mono ?_); (case side1 => repeat (first | exact (Kd.R_reads' HO116.out).2.2 | (with_reducible refine Kd.C_alloc ?_ _) | (with_reducible refine Kd.C_drewN ?_ _) | (with_reducible refine Kd.C_drew ?_))); (case side2 => exact (Kd.R_reads' HO116.out).2.1); rintro e w11 ⟨v118, rfl, ho0, hb⟩; refine ⟨_, rfl, ?_⟩; have n0_ := Aside0.mk (Kd.R_below (by (with_reducible repeat (first | apply Kd.R_alloc | apply Kd.R_drewN | apply Kd.R_drew)); exact HO116.out) hb); have n1_ := Aside0.mk (Kd.R_lower ho0 (below_size (by repeat (first | (with_reducible first | exact HB.out | apply below_alloc | apply pw_below_drewN | apply below_drew1) | exact HB.out)))); have n2_ := Aside0.mk (below_step (by repeat (first | (with_reducible first | exact HB.out | apply below_alloc | apply pw_below_drewN | apply below_drew1) | exact HB.out)) hb); clear HO116; clear HB; have HO116 := n0_; have HO119 := n1_; have HB := n2_; clear n0_ n1_ n2_; (try clear hb); (try clear hb2); (try clear hk); (try clear hi); (try clear ho0); obtain ⟨Ao12, co12, eo12⟩ := Kd.R_slice HO119.out; subst eo12; have p120 : 0 ≤ (0 : Int) := (by omega); have q120 : 0 < (t117.length : Int) := of_decide_eq_true (by first | (with_reducible assumption) | assumption); obtain ⟨ad120, e120, hx120_0, hx120_1, hx120_2⟩ := at_T34 (Kd.R_reads' HO119.out).2.2 0 p120 q120; cases e120; have qi120 : (0 < t117.length) = True := eq_true (by omega); (try rw [show ((0 : Int)).toNat = 0 from rfl] at hx120_0); (try rw [show 0 * 3 = 0 from rfl] at hx120_0); (try rw [Addr.add_zero'] at hx120_0); (try rw [show ((0 : Int)).toNat = 0 from rfl] at hx120_1); (try rw [show 0 * 3 = 0 from rfl] at hx120_1); (try rw [Addr.add_zero'] at hx120_1); (try rw [show ((0 : Int)).toNat = 0 from rfl] at hx120_2); (try rw [show 0 * 3 = 0 from rfl] at hx120_2); (try rw [Addr.add_zero'] at hx120_2); replace p120 := eq_true p120; replace q120 := eq_true q120; have p121 : 0 ≤ (1 : Int) := (by omega); have q121 : 1 < (t117.length : Int) := of_decide_eq_true (by first | (with_reducible assumption) | assumption); obtain ⟨ad121, e121, hx121_0, hx121_1, hx121_2⟩ := at_T34 (Kd.R_reads' HO119.out).2.2 1 p121 q121; obtain rfl : ad120 = ad121 := (by injection e121); (try simp only [show (1 : Int).toNat = 1 from rfl, Nat.reduceMul, Nat.reduceEqDiff, Go.Addr.add, ↓reduceIte] at hx121_0); (try simp only [show (1 : Int).toNat = 1 from rfl, Nat.reduceMul, Nat.reduceEqDiff, Go.Addr.add, ↓reduceIte] at hx121_1); (try simp only [show (1 : Int).toNat = 1 from rfl, Nat.reduceMul, Nat.reduceEqDiff, Go.Addr.add, ↓reduceIte] at hx121_2); have qi121 : (1 < t117.length) = True := eq_true (by omega); (try rw [show ((1 : Int)).toNat = 1 from rfl] at hx121_0); (try rw [show 1 * 3 = 3 from rfl] at hx121_0); (try rw [show ((1 : Int)).toNat = 1 from rfl] at hx121_1); (try rw [show 1 * 3 = 3 from rfl] at hx121_1); (try rw [show ((1 : Int)).toNat = 1 from rfl] at hx121_2); (try rw [show 1 * 3 = 3 from rfl] at hx121_2); replace p121 := eq_true p121; replace q121 := eq_true q121) | (go_at_call 12; (with_reducible refine (pump_Sum.calls k _ _ t117 t122 _ ?side1 ?side2 A7.out).mono ?_); (case side1 => repeat (first | exact (Kd.R_reads' HO119.out).2.2 | (with_reducible refine Kd.C_alloc ?_ _) | (with_reducible refine Kd.C_drewN ?_ _) | (with_reducible refine Kd.C_drew ?_))); (case side2 => exact (Kd.R_reads' HO119.out).2.1); rintro e w13 ⟨rfl, hb⟩; have n0_ := Aside0.mk (Kd.R_below (by (with_reducible repeat (first | apply Kd.R_alloc | apply Kd.R_drewN | apply Kd.R_drew)); exact HO116.out) hb); have n1_ := Aside0.mk (Kd.R_below (by (with_reducible repeat (first | apply Kd.R_alloc | apply Kd.R_drewN | apply Kd.R_drew)); exact HO119.out) hb); have n2_ := Aside0.mk (below_step (by repeat (first | (with_reducible first | exact HB.out | apply below_alloc | apply pw_below_drewN | apply below_drew1) | exact HB.out)) hb); clear HO116; clear HO119; clear HB; have HO116 := n0_; have HO119 := n1_; have HB := n2_; clear n0_ n1_ n2_; (try clear hb); (try clear hb2); (try clear hk); (try clear hi)))
            go_ret
            exact ⟨by first | rfl | (simp [errW_none, errW_some] <;> rfl) | (simp [*, errW_none, errW_some] <;> rfl), by repeat (first | (with_reducible first | exact HB.out | apply below_alloc | apply pw_below_drewN | apply below_drew1) | exact HB.out)⟩
          · rw [if_neg c6] at H
            have c6b0 : (((rd_T34 t117 1).f0) == 1 && (((rd_T34 t117 1).f1) == 16 && (((rd_T34 t117 1).f2)))) = false := by simpa using c6
            (try (have c6b1 : decide (((rd_T34 t117 1).f0) = 1 && (((rd_T34 t117 1).f1) == 16 && (((rd_T34 t117 1).f2)))) = false := by simpa using c6))
            (try (have c6b2 : (((rd_T34 t117 1).f0) == 1 && (((rd_T34 t117 1).f1) == 16 && (((rd_T34 t117 1).f2)))) = false := by simpa using c6))
            (try (have c6b3 : ¬ (((rd_T34 t117 1).f0) = 1 && (((rd_T34 t117 1).f1) == 16 && (((rd_T34 t117 1).f2)))) := by simpa using c6))
            clear c6
            obtain rfl := Option.some.inj H
            go_enter Try.func9, Try.ntmps9
            go_wp2_with (first | ((with_reducible refine gate_dst (N := 3) rfl ?_); refine Kd.R_lit k26 _ 26 ?hg (N := 3) ?hd (xs := ([(⟨1, 100, 80, true⟩ : S26)] : List (S26))) (inner := [.int .i64 1, .int .i64 100, .int .i64 80, .bool true]) (ok := fun _ => True) (okp := fun _ => True) ?hr ?hp (fun _ hk => hk) trivial (Below.refl _ _) (Nat.le_refl _) (by simp) ?_; (case hd => rfl); (case hg => rfl); (case hr => first | (go_simp; done) | (go_simp; rfl)); (case hp => exact (Reps.c4 (show Kd.M k26 _ _ _ (⟨1, 100, 80, true⟩ : S26) [.int .i64 1, .int .i64 100, .int .i64 80, .bool true] from (k26_mkM _ _ _ (⟨1, 100, 80, true⟩ : S26) )) (Reps.none _ _))); intro v115 w14 ho15 hb hg_ hnew_; clear hg_ hnew_; (first | rw [← Ny114.out] at ho15 | (simp only [Int.reduceToNat] at ho15; rw [← Ny114.out] at ho15)); have n0_ := Aside0.mk (Kd.R_lower ho15 (below_size (by repeat (first | (with_reducible first | exact HB.out | apply below_alloc | apply pw_below_drewN | apply below_drew1) | exact HB.out)))); have n1_ := Aside0.mk (below_step (by repeat (first | (with_reducible first | exact HB.out | apply below_alloc | apply pw_below_drewN | apply below_drew1) | exact HB.out)) hb); clear HB; have HO116 := n0_; have HB := n1_; clear n0_ n1_; clear hb ho15; obtain ⟨Ao16, co16, eo16⟩ := Kd.R_slice HO116.out; subst eo16) | ((with_reducible refine gate_callee (f := 11) rfl ?_); refine goesL_ (some 4) rfl rfl Try.func11 (by kernel_rfl) rfl #[.int .i64 100, .int .i64 64, .slice Ao16 y114.length co16] rfl (by (try simp only [List.map_toArray, List.map_cons, List.map_nil]); first | done | rfl | (simp only [List.length_drop, List.length_take]; rfl)) ?_; (with_reducible refine (pump_Plan.calls k 100 64 _ _ y114 t117 _ ?side1 ?side2 A1.out).mono ?_); (case side1 => repeat (first | exact (Kd.R_reads' HO116.out).2.2 | (with_reducible refine Kd.C_alloc ?_ _) | (with_reducible refine Kd.C_drewN ?_ _) | (with_reducible refine Kd.C_drew ?_))); (case side2 => exact (Kd.R_reads' HO116.out).2.1); rintro e w17 ⟨v118, rfl, ho0, hb⟩; refine ⟨_, rfl, ?_⟩; have n0_ := Aside0.mk (Kd.R_below (by (with_reducible repeat (first | apply Kd.R_alloc | apply Kd.R_drewN | apply Kd.R_drew)); exact HO116.out) hb); have n1_ := Aside0.mk (Kd.R_lower ho0 (below_size (by repeat (first | (with_reducible first | exact HB.out | apply below_alloc | apply pw_below_drewN | apply below_drew1) | exact HB.out)))); have n2_ := Aside0.mk (below_step (by repeat (first | (with_reducible first | exact HB.out | apply below_alloc | apply pw_below_drewN | apply below_drew1) | exact HB.out)) hb); clear HO116; clear HB; have HO116 := n0_; have HO119 := n1_; have HB := n2_; clear n0_ n1_ n2_; (try clear hb); (try clear hb2); (try clear hk); (try clear hi); (try clear ho0); obtain ⟨Ao18, co18, eo18⟩ := Kd.R_slice HO119.out; subst eo18; have p120 : 0 ≤ (0 : Int) := (by omega); have q120 : 0 < (t117.length : Int) := of_decide_eq_true (by first | (with_reducible assumption) | assumption); obtain ⟨ad120, e120, hx120_0, hx120_1, hx120_2⟩ := at_T34 (Kd.R_reads' HO119.out).2.2 0 p120 q120; cases e120; have qi120 : (0 < t117.length) = True := eq_true (by omega); (try rw [show ((0 : Int)).toNat = 0 from rfl] at hx120_0); (try rw [show 0 * 3 = 0 from rfl] at hx120_0); (try rw [Addr.add_zero'] at hx120_0); (try rw [show ((0 : Int)).toNat = 0 from rfl] at hx120_1); (try rw [show 0 * 3 = 0 from rfl] at hx120_1); (try rw [Addr.add_zero'] at hx120_1); (try rw [show ((0 : Int)).toNat = 0 from rfl] at hx120_2); (try rw [show 0 * 3 = 0 from rfl] at hx120_2); (try rw [Addr.add_zero'] at hx120_2); replace p120 := eq_true p120; replace q120 := eq_true q120; have p121 : 0 ≤ (1 : Int) := (by omega); have q121 : 1 < (t117.length : Int) := of_decide_eq_true (by first | (with_reducible assumption) | assumption); obtain ⟨ad121, e121, hx121_0, hx121_1, hx121_2⟩ := at_T34 (Kd.R_reads' HO119.out).2.2 1 p121 q121; obtain rfl : ad120 = ad121 := (by injection e121); (try simp only [show (1 : Int).toNat = 1 from rfl, Nat.reduceMul, Nat.reduceEqDiff, Go.Addr.add, ↓reduceIte] at hx121_0); (try simp only [show (1 : Int).toNat = 1 from rfl, Nat.reduceMul, Nat.reduceEqDiff, Go.Addr.add, ↓reduceIte] at hx121_1); (try simp only [show (1 : Int).toNat = 1 from rfl, Nat.reduceMul, Nat.reduceEqDiff, Go.Addr.add, ↓reduceIte] at hx121_2); have qi121 : (1 < t117.length) = True := eq_true (by omega); (try rw [show ((1 : Int)).toNat = 1 from rfl] at hx121_0); (try rw [show 1 * 3 = 3 from rfl] at hx121_0); (try rw [show ((1 : Int)).toNat = 1 from rfl] at hx121_1); (try rw [show 1 * 3 = 3 from rfl] at hx121_1); (try rw [show ((1 : Int)).toNat = 1 from rfl] at hx121_2); (try rw [show 1 * 3 = 3 from rfl] at hx121_2); replace p121 := eq_true p121; replace q121 := eq_true q121))
            go_ret
            exact ⟨by first | rfl | (simp [errW_none, errW_some] <;> rfl) | (simp [*, errW_none, errW_some] <;> rfl), by repeat (first | (with_reducible first | exact HB.out | apply below_alloc | apply pw_below_drewN | apply below_drew1) | exact HB.out)⟩
        · rw [if_neg c5] at H
          exact absurd H (by simp)
      · rw [if_neg c4] at H
        have c4b0 : (((rd_T34 t117 0).f0) == 1 && (((rd_T34 t117 0).f1) == 64 && (!((rd_T34 t117 0).f2)))) = false := by simpa using c4
        (try (have c4b1 : decide (((rd_T34 t117 0).f0) = 1 && (((rd_T34 t117 0).f1) == 64 && (!((rd_T34 t117 0).f2)))) = false := by simpa using c4))
        (try (have c4b2 : (((rd_T34 t117 0).f0) == 1 && (((rd_T34 t117 0).f1) == 64 && (!((rd_T34 t117 0).f2)))) = false := by simpa using c4))
        (try (have c4b3 : ¬ (((rd_T34 t117 0).f0) = 1 && (((rd_T34 t117 0).f1) == 64 && (!((rd_T34 t117 0).f2)))) := by simpa using c4))
        clear c4
        obtain rfl := Option.some.inj H
        go_enter Try.func9, Try.ntmps9
        go_wp2_with (first | ((with_reducible refine gate_dst (N := 3) rfl ?_); refine Kd.R_lit k26 _ 26 ?hg (N := 3) ?hd (xs := ([(⟨1, 100, 80, true⟩ : S26)] : List (S26))) (inner := [.int .i64 1, .int .i64 100, .int .i64 80, .bool true]) (ok := fun _ => True) (okp := fun _ => True) ?hr ?hp (fun _ hk => hk) trivial (Below.refl _ _) (Nat.le_refl _) (by simp) ?_; (case hd => rfl); (case hg => rfl); (case hr => first | (go_simp; done) | (go_simp; rfl)); (case hp => exact (Reps.c4 (show Kd.M k26 _ _ _ (⟨1, 100, 80, true⟩ : S26) [.int .i64 1, .int .i64 100, .int .i64 80, .bool true] from (k26_mkM _ _ _ (⟨1, 100, 80, true⟩ : S26) )) (Reps.none _ _))); intro v115 w19 ho20 hb hg_ hnew_; clear hg_ hnew_; (first | rw [← Ny114.out] at ho20 | (simp only [Int.reduceToNat] at ho20; rw [← Ny114.out] at ho20)); have n0_ := Aside0.mk (Kd.R_lower ho20 (below_size (by repeat (first | (with_reducible first | exact HB.out | apply below_alloc | apply pw_below_drewN | apply below_drew1) | exact HB.out)))); have n1_ := Aside0.mk (below_step (by repeat (first | (with_reducible first | exact HB.out | apply below_alloc | apply pw_below_drewN | apply below_drew1) | exact HB.out)) hb); clear HB; have HO116 := n0_; have HB := n1_; clear n0_ n1_; clear hb ho20; obtain ⟨Ao21, co21, eo21⟩ := Kd.R_slice HO116.out; subst eo21) | ((with_reducible refine gate_callee (f := 11) rfl ?_); refine goesL_ (some 4) rfl rfl Try.func11 (by kernel_rfl) rfl #[.int .i64 100, .int .i64 64, .slice Ao21 y114.length co21] rfl (by (try simp only [List.map_toArray, List.map_cons, List.map_nil]); first | done | rfl | (simp only [List.length_drop, List.length_take]; rfl)) ?_; (with_reducible refine (pump_Plan.calls k 100 64 _ _ y114 t117 _ ?side1 ?side2 A1.out).mono ?_); (case side1 => repeat (first | exact (Kd.R_reads' HO116.out).2.2 | (with_reducible refine Kd.C_alloc ?_ _) | (with_reducible refine Kd.C_drewN ?_ _) | (with_reducible refine Kd.C_drew ?_))); (case side2 => exact (Kd.R_reads' HO116.out).2.1); rintro e w22 ⟨v118, rfl, ho0, hb⟩; refine ⟨_, rfl, ?_⟩; have n0_ := Aside0.mk (Kd.R_below (by (with_reducible repeat (first | apply Kd.R_alloc | apply Kd.R_drewN | apply Kd.R_drew)); exact HO116.out) hb); have n1_ := Aside0.mk (Kd.R_lower ho0 (below_size (by repeat (first | (with_reducible first | exact HB.out | apply below_alloc | apply pw_below_drewN | apply below_drew1) | exact HB.out)))); have n2_ := Aside0.mk (below_step (by repeat (first | (with_reducible first | exact HB.out | apply below_alloc | apply pw_below_drewN | apply below_drew1) | exact HB.out)) hb); clear HO116; clear HB; have HO116 := n0_; have HO119 := n1_; have HB := n2_; clear n0_ n1_ n2_; (try clear hb); (try clear hb2); (try clear hk); (try clear hi); (try clear ho0); obtain ⟨Ao23, co23, eo23⟩ := Kd.R_slice HO119.out; subst eo23; have p120 : 0 ≤ (0 : Int) := (by omega); have q120 : 0 < (t117.length : Int) := of_decide_eq_true (by first | (with_reducible assumption) | assumption); obtain ⟨ad120, e120, hx120_0, hx120_1, hx120_2⟩ := at_T34 (Kd.R_reads' HO119.out).2.2 0 p120 q120; cases e120; have qi120 : (0 < t117.length) = True := eq_true (by omega); (try rw [show ((0 : Int)).toNat = 0 from rfl] at hx120_0); (try rw [show 0 * 3 = 0 from rfl] at hx120_0); (try rw [Addr.add_zero'] at hx120_0); (try rw [show ((0 : Int)).toNat = 0 from rfl] at hx120_1); (try rw [show 0 * 3 = 0 from rfl] at hx120_1); (try rw [Addr.add_zero'] at hx120_1); (try rw [show ((0 : Int)).toNat = 0 from rfl] at hx120_2); (try rw [show 0 * 3 = 0 from rfl] at hx120_2); (try rw [Addr.add_zero'] at hx120_2); replace p120 := eq_true p120; replace q120 := eq_true q120))
        go_ret
        exact ⟨by first | rfl | (simp [errW_none, errW_some] <;> rfl) | (simp [*, errW_none, errW_some] <;> rfl), by repeat (first | (with_reducible first | exact HB.out | apply below_alloc | apply pw_below_drewN | apply below_drew1) | exact HB.out)⟩
    · rw [if_neg c3] at H
      exact absurd H (by simp)
  · rw [if_neg c2] at H
    have c2b0 : ((t117.length : Int) == 2) = false := beq_eq_false_iff_ne.mpr c2
    have c2b1 : ((t117.length : Int) != 2) = true := bne_iff_ne.mpr c2
    obtain rfl := Option.some.inj H
    go_enter Try.func9, Try.ntmps9
    go_wp2_with (first | ((with_reducible refine gate_dst (N := 3) rfl ?_); refine Kd.R_lit k26 _ 26 ?hg (N := 3) ?hd (xs := ([(⟨1, 100, 80, true⟩ : S26)] : List (S26))) (inner := [.int .i64 1, .int .i64 100, .int .i64 80, .bool true]) (ok := fun _ => True) (okp := fun _ => True) ?hr ?hp (fun _ hk => hk) trivial (Below.refl _ _) (Nat.le_refl _) (by simp) ?_; (case hd => rfl); (case hg => rfl); (case hr => first | (go_simp; done) | (go_simp; rfl)); (case hp => exact (Reps.c4 (show Kd.M k26 _ _ _ (⟨1, 100, 80, true⟩ : S26) [.int .i64 1, .int .i64 100, .int .i64 80, .bool true] from (k26_mkM _ _ _ (⟨1, 100, 80, true⟩ : S26) )) (Reps.none _ _))); intro v115 w24 ho25 hb hg_ hnew_; clear hg_ hnew_; (first | rw [← Ny114.out] at ho25 | (simp only [Int.reduceToNat] at ho25; rw [← Ny114.out] at ho25)); have n0_ := Aside0.mk (Kd.R_lower ho25 (below_size (by repeat (first | (with_reducible first | exact HB.out | apply below_alloc | apply pw_below_drewN | apply below_drew1) | exact HB.out)))); have n1_ := Aside0.mk (below_step (by repeat (first | (with_reducible first | exact HB.out | apply below_alloc | apply pw_below_drewN | apply below_drew1) | exact HB.out)) hb); clear HB; have HO116 := n0_; have HB := n1_; clear n0_ n1_; clear hb ho25; obtain ⟨Ao26, co26, eo26⟩ := Kd.R_slice HO116.out; subst eo26) | ((with_reducible refine gate_callee (f := 11) rfl ?_); refine goesL_ (some 4) rfl rfl Try.func11 (by kernel_rfl) rfl #[.int .i64 100, .int .i64 64, .slice Ao26 y114.length co26] rfl (by (try simp only [List.map_toArray, List.map_cons, List.map_nil]); first | done | rfl | (simp only [List.length_drop, List.length_take]; rfl)) ?_; (with_reducible refine (pump_Plan.calls k 100 64 _ _ y114 t117 _ ?side1 ?side2 A1.out).mono ?_); (case side1 => repeat (first | exact (Kd.R_reads' HO116.out).2.2 | (with_reducible refine Kd.C_alloc ?_ _) | (with_reducible refine Kd.C_drewN ?_ _) | (with_reducible refine Kd.C_drew ?_))); (case side2 => exact (Kd.R_reads' HO116.out).2.1); rintro e w27 ⟨v118, rfl, ho0, hb⟩; refine ⟨_, rfl, ?_⟩; have n0_ := Aside0.mk (Kd.R_below (by (with_reducible repeat (first | apply Kd.R_alloc | apply Kd.R_drewN | apply Kd.R_drew)); exact HO116.out) hb); have n1_ := Aside0.mk (Kd.R_lower ho0 (below_size (by repeat (first | (with_reducible first | exact HB.out | apply below_alloc | apply pw_below_drewN | apply below_drew1) | exact HB.out)))); have n2_ := Aside0.mk (below_step (by repeat (first | (with_reducible first | exact HB.out | apply below_alloc | apply pw_below_drewN | apply below_drew1) | exact HB.out)) hb); clear HO116; clear HB; have HO116 := n0_; have HO119 := n1_; have HB := n2_; clear n0_ n1_ n2_; (try clear hb); (try clear hb2); (try clear hk); (try clear hi); (try clear ho0); obtain ⟨Ao28, co28, eo28⟩ := Kd.R_slice HO119.out; subst eo28))
    go_ret
    exact ⟨by first | rfl | (simp [errW_none, errW_some] <;> rfl) | (simp [*, errW_none, errW_some] <;> rfl), by repeat (first | (with_reducible first | exact HB.out | apply below_alloc | apply pw_below_drewN | apply below_drew1) | exact HB.out)⟩

end Go.Proofs.Ytjjdhaphgnldaaa.PPumpOne
