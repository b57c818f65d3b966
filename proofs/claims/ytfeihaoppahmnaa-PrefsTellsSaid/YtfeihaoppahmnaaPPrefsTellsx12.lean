-- Written by a program of this session (the kit's printer, turned): the functions that the law reaches.
import Derived.Test.YtfeihaoppahmnaaPPrefsTellsx0
namespace Go.Proofs.Ytfeihaoppahmnaa.PPrefsTells
open Go.RowKit Go.Proofs.YtfeihaoppahmnaaW.PrintWords Go.Proofs.YtfeihaoppahmnaaW.PrintLast Go.Proofs.YtfeihaoppahmnaaW.PrintMore
attribute [local go_sem] max2_int min2_int max_two min_two max_three min_three max_four min_four   -- for this text's walks alone
set_option linter.unusedVariables false
set_option linter.unusedSimpArgs false

/-! ### bywashref1_Apply: function 20 -/
def bywashref1_Apply.l0 : Nat → List (S48) → Int → Int → Int → Int → Int → Int → Int → Int → Int → Int → Int → Option (Int × Int × Int × Int × Int × Int × Int)
  | 0, _, _, _, _, _, _, _, _, _, _, _, _ => none
  | k + 1, x1, x8, x313000, x313001, x313002, x313003, x313004, x315000, x315001, x315002, x315003, x315004 => if x8 < (x1.length : Int) then (if 0 ≤ x8 then (if ((rd_T48 x1 x8).f0) = 1 then (bywashref1_Apply.l0 k x1 (wrap64 (x8 + 1)) ((rd_T48 x1 x8).f1) x313001 x313002 x313003 x313004 x315000 x315001 x315002 x315003 x315004) else (if ((rd_T48 x1 x8).f0) = 3 then (bywashref1_Apply.l0 k x1 (wrap64 (x8 + 1)) x313000 (mn ((rd_T48 x1 x8).f1) 6) x313002 x313003 x313004 x315000 x315001 x315002 x315003 x315004) else (if ((rd_T48 x1 x8).f0) = 4 then (if ((rd_T48 x1 x8).f1) > 2147483647 then (some (x315000, x315001, x315002, x315003, x315004, 3, 9)) else (bywashref1_Apply.l0 k x1 (wrap64 (x8 + 1)) x313000 x313001 ((rd_T48 x1 x8).f1) x313003 x313004 x315000 x315001 x315002 x315003 x315004)) else (if ((rd_T48 x1 x8).f0) = 5 then (if ((rd_T48 x1 x8).f1) < 64 then (some (x315000, x315001, x315002, x315003, x315004, 1, 11)) else (if ((rd_T48 x1 x8).f1) > 16777215 then (some (x315000, x315001, x315002, x315003, x315004, 1, 11)) else (bywashref1_Apply.l0 k x1 (wrap64 (x8 + 1)) x313000 x313001 x313002 (mn ((rd_T48 x1 x8).f1) 512) x313004 x315000 x315001 x315002 x315003 x315004))) else (if ((rd_T48 x1 x8).f0) = 6 then (bywashref1_Apply.l0 k x1 (wrap64 (x8 + 1)) x313000 x313001 x313002 x313003 ((rd_T48 x1 x8).f1) x315000 x315001 x315002 x315003 x315004) else (if ((rd_T48 x1 x8).f0) = 2 then (if ((rd_T48 x1 x8).f1) = 0 then (bywashref1_Apply.l0 k x1 (wrap64 (x8 + 1)) x313000 x313001 x313002 x313003 x313004 x315000 x315001 x315002 x315003 x315004) else (some (x315000, x315001, x315002, x315003, x315004, 1, 11))) else (bywashref1_Apply.l0 k x1 (wrap64 (x8 + 1)) x313000 x313001 x313002 x313003 x313004 x315000 x315001 x315002 x315003 x315004))))))) else (none)) else (some (x313000, x313001, x313002, x313003, x313004, 0, 0))
def bywashref1_Apply.f (k : Nat) (a0_0 : Int) (a0_1 : Int) (a0_2 : Int) (a0_3 : Int) (a0_4 : Int) (l1 : List (S48)) : Option (Int × Int × Int × Int × Int × Int × Int) := bywashref1_Apply.l0 k l1 0 a0_0 a0_1 a0_2 a0_3 a0_4 a0_0 a0_1 a0_2 a0_3 a0_4
theorem bywashref1_Apply.mono_l : ∀ k, (∀ y0 y1 y2 y3 y4 y5 y6 y7 y8 y9 y10 y11, LeO (bywashref1_Apply.l0 k y0 y1 y2 y3 y4 y5 y6 y7 y8 y9 y10 y11) (bywashref1_Apply.l0 (k + 1) y0 y1 y2 y3 y4 y5 y6 y7 y8 y9 y10 y11))
  | 0 => fun _ _ _ _ _ _ _ _ _ _ _ _ r h => by simp [bywashref1_Apply.l0] at h
  | k + 1 => by
    have ih0 := bywashref1_Apply.mono_l k
    · intro y0 y1 y2 y3 y4 y5 y6 y7 y8 y9 y10 y11
      unfold bywashref1_Apply.l0
      repeat' first
      | (with_reducible exact ih0 _ _ _ _ _ _ _ _ _ _ _ _)
      | (with_reducible exact LeO.refl _)
      | (with_reducible exact LeO.none _)
      | (with_reducible refine LeO.ite ?_ ?_)
      | (with_reducible refine LeO.bind ?_ (fun _ => ?_))
      | exact ih0 _ _ _ _ _ _ _ _ _ _ _ _
      | exact LeO.none _
      | refine LeO.ite ?_ ?_
      | refine LeO.bind ?_ (fun _ => ?_)
theorem bywashref1_Apply.mono : ∀ a0 a1 a2 a3 a4 a5 k, LeO (bywashref1_Apply.f k a0 a1 a2 a3 a4 a5) (bywashref1_Apply.f (k + 1) a0 a1 a2 a3 a4 a5) := by
  intro a0 a1 a2 a3 a4 a5 k
  have ih0 := bywashref1_Apply.mono_l k
  unfold bywashref1_Apply.f
  repeat' first
      | (with_reducible exact ih0 _ _ _ _ _ _ _ _ _ _ _ _)
      | (with_reducible exact LeO.refl _)
      | (with_reducible exact LeO.none _)
      | (with_reducible refine LeO.ite ?_ ?_)
      | (with_reducible refine LeO.bind ?_ (fun _ => ?_))
      | exact ih0 _ _ _ _ _ _ _ _ _ _ _ _
      | exact LeO.none _
      | refine LeO.ite ?_ ?_
      | refine LeO.bind ?_ (fun _ => ?_)
set_option maxHeartbeats 8000000 in
set_option maxRecDepth 100000 in
theorem bywashref1_Apply.calls (k : Nat) (a0_0 : Int) (a0_1 : Int) (a0_2 : Int) (a0_3 : Int) (a0_4 : Int) (A1 : Option Addr) (c1 : Nat) (l1 : List (S48)) (r1 : Int) (r2 : Int) (r3 : Int) (r4 : Int) (r5 : Int) (r6 : Int) (r7 : Int) (w : World) (hr1 : Kd.C k48 w A1 l1.length l1) (hc1 : l1.length ≤ c1) (h : bywashref1_Apply.f k a0_0 a0_1 a0_2 a0_3 a0_4 l1 = some (r1, r2, r3, r4, r5, r6, r7)) :
    Calls Try.prog 20 #[.agg #[.int .i64 a0_0, .int .i64 a0_1, .int .i64 a0_2, .int .i64 a0_3, .int .i64 a0_4], .slice A1 l1.length c1] w fun e w' => e = .returned (.tuple #[.agg #[.int .i64 r1, .int .i64 r2, .int .i64 r3, .int .i64 r4, .int .i64 r5], .int .i64 r6, .int .i64 r7]) ∧ Below w.heap.size w w' := by
  have hu42 := Try.underlying42
  have HR1 := Aside0.mk hr1
  have HC1 := Aside0.mk hc1
  clear hr1 hc1
  have HB := Aside0.mk (Below.refl w.heap.size w)
  have H : (bywashref1_Apply.l0 k l1 0 a0_0 a0_1 a0_2 a0_3 a0_4 a0_0 a0_1 a0_2 a0_3 a0_4) = some (r1, r2, r3, r4, r5, r6, r7) := h
  clear h
  have H' := Aside0.mk H
  clear H
  go_enter Try.func20, Try.ntmps20
  go_wp2_with (first | ((with_reducible refine gate_dst (N := 2) rfl ?_); refine box_event ?hg (N := 2) ?hd (cs := #[.int .i64 a0_0, .int .i64 a0_1, .int .i64 a0_2, .int .i64 a0_3, .int .i64 a0_4]) (t := 42) ?hr ?_; (case hd => rfl); (case hg => rfl); (case hr => first | (go_simp; done) | (go_simp; rfl)); intro gb312 hg w3 hbox hb; have n0_ := Aside0.mk (below_step (by repeat (first | (with_reducible first | exact HB.out | apply below_alloc | apply pw_below_drewN | apply below_drew1) | exact HB.out)) hb); have n1_ := Aside0.mk (hbox); have n2_ := Aside0.mk ((by rw [hg]; exact (below_size (by repeat (first | (with_reducible first | exact HB.out | apply below_alloc | apply pw_below_drewN | apply below_drew1) | exact HB.out))) : w.heap.size ≤ gb312)); have n3_ := Aside0.mk ((by rw [hg]; exact (below_size (by repeat (first | (with_reducible first | exact HB.out | apply below_alloc | apply pw_below_drewN | apply below_drew1) | exact HB.out))) : w.heap.size ≤ gb312)); clear HB; have HB := n0_; have BK312 := n1_; have GW312 := n2_; have GE312 := n3_; clear n0_ n1_ n2_ n3_; clear hb hbox hg) | ((with_reducible refine gate_dst (N := 4) rfl ?_); refine box_event ?hg (N := 4) ?hd (cs := #[.int .i64 0, .int .i64 0, .int .i64 0, .int .i64 0, .int .i64 0]) (t := 42) ?hr ?_; (case hd => rfl); (case hg => rfl); (case hr => first | (go_simp; done) | (go_simp; rfl)); intro gb313 hg w4 hbox hb; have n0_ := Aside0.mk (blk_below (g := gb312) (o := .cells #[.int .i64 a0_0, .int .i64 a0_1, .int .i64 a0_2, .int .i64 a0_3, .int .i64 a0_4] 42 (0, 0)) (by (with_reducible repeat (first | refine blk_drewN ?_ _ | refine blk_drew ?_ | refine blk_alloc ?_ _)); exact BK312.out) hb); have n1_ := Aside0.mk (below_step (by repeat (first | (with_reducible first | exact HB.out | apply below_alloc | apply pw_below_drewN | apply below_drew1 | refine below_set ?_ GE312.out) | exact HB.out)) hb); have n2_ := Aside0.mk (hbox); have n3_ := Aside0.mk ((by rw [hg]; exact (below_size (by repeat (first | (with_reducible first | exact HB.out | apply below_alloc | apply pw_below_drewN | apply below_drew1 | refine below_set ?_ GE312.out) | exact HB.out))) : w.heap.size ≤ gb313)); have n4_ := Aside0.mk ((by rw [hg]; exact (below_size (by repeat (first | (with_reducible first | exact HB.out | apply below_alloc | apply pw_below_drewN | apply below_drew1 | refine below_set ?_ GE312.out) | exact HB.out))) : w.heap.size ≤ gb313)); have n5_ := Aside0.mk ((by rw [hg]; exact Nat.ne_of_lt (blk_lt (g := gb312) (o := .cells #[.int .i64 a0_0, .int .i64 a0_1, .int .i64 a0_2, .int .i64 a0_3, .int .i64 a0_4] 42 (0, 0)) (by (with_reducible repeat (first | refine blk_drewN ?_ _ | refine blk_drew ?_ | refine blk_alloc ?_ _)); exact BK312.out)) : gb312 ≠ gb313)); have n6_ := Aside0.mk ((by rw [hg]; exact Nat.ne_of_gt (blk_lt (g := gb312) (o := .cells #[.int .i64 a0_0, .int .i64 a0_1, .int .i64 a0_2, .int .i64 a0_3, .int .i64 a0_4] 42 (0, 0)) (by (with_reducible repeat (first | refine blk_drewN ?_ _ | refine blk_drew ?_ | refine blk_alloc ?_ _)); exact BK312.out)) : gb313 ≠ gb312)); clear BK312; clear HB; have BK312 := n0_; have HB := n1_; have BK313 := n2_; have GW313 := n3_; have GE313 := n4_; have NB312_313 := n5_; have NB313_312 := n6_; clear n0_ n1_ n2_ n3_ n4_ n5_ n6_; clear hb hbox hg; have hnb5 := NB312_313.out; have hnc5 := NB313_312.out; have hcz6_0 : w4.cell? ⟨gb312, 0, none⟩ = some (.int .i64 a0_0) := (blk_cell BK312.out 0).trans rfl; have hcz6_1 : w4.cell? ⟨gb312, 1, none⟩ = some (.int .i64 a0_1) := (blk_cell BK312.out 1).trans rfl; have hcz6_2 : w4.cell? ⟨gb312, 2, none⟩ = some (.int .i64 a0_2) := (blk_cell BK312.out 2).trans rfl; have hcz6_3 : w4.cell? ⟨gb312, 3, none⟩ = some (.int .i64 a0_3) := (blk_cell BK312.out 3).trans rfl; have hcz6_4 : w4.cell? ⟨gb312, 4, none⟩ = some (.int .i64 a0_4) := (blk_cell BK312.out 4).trans rfl; have hfz6_0 := blk_frozen BK312.out 0; have hfz6_1 := blk_frozen BK312.out 1; have hfz6_2 := blk_frozen BK312.out 2; have hfz6_3 := blk_frozen BK312.out 3; have hfz6_4 := blk_frozen BK312.out 4) | ((with_reducible refine gate_dst (N := 7) rfl ?_); refine box_event ?hg (N := 7) ?hd (cs := #[.int .i64 0, .int .i64 0, .int .i64 0, .int .i64 0, .int .i64 0]) (t := 42) ?hr ?_; (case hd => rfl); (case hg => rfl); (case hr => first | (go_simp; done) | (go_simp; rfl)); intro gb314 hg w7 hbox hb; have n0_ := Aside0.mk (blk_below (g := gb312) (o := .cells #[.int .i64 a0_0, .int .i64 a0_1, .int .i64 a0_2, .int .i64 a0_3, .int .i64 a0_4] 42 (0, 0)) (by (with_reducible repeat (first | refine blk_drewN ?_ _ | refine blk_drew ?_ | refine blk_alloc ?_ _)); exact BK312.out) hb); have n1_ := Aside0.mk (blk_below (g := gb313) (o := .cells #[.int .i64 0, .int .i64 0, .int .i64 0, .int .i64 0, .int .i64 0] 42 (0, 0)) (by (with_reducible repeat (first | refine blk_drewN ?_ _ | refine blk_drew ?_ | refine blk_alloc ?_ _)); exact BK313.out) hb); have n2_ := Aside0.mk (below_step (by repeat (first | (with_reducible first | exact HB.out | apply below_alloc | apply pw_below_drewN | apply below_drew1 | refine below_set ?_ GE312.out | refine below_set ?_ GE313.out) | exact HB.out)) hb); have n3_ := Aside0.mk (hbox); have n4_ := Aside0.mk ((by rw [hg]; exact (below_size (by repeat (first | (with_reducible first | exact HB.out | apply below_alloc | apply pw_below_drewN | apply below_drew1 | refine below_set ?_ GE312.out | refine below_set ?_ GE313.out) | exact HB.out))) : w.heap.size ≤ gb314)); have n5_ := Aside0.mk ((by rw [hg]; exact (below_size (by repeat (first | (with_reducible first | exact HB.out | apply below_alloc | apply pw_below_drewN | apply below_drew1 | refine below_set ?_ GE312.out | refine below_set ?_ GE313.out) | exact HB.out))) : w.heap.size ≤ gb314)); have n6_ := Aside0.mk ((by rw [hg]; exact Nat.ne_of_lt (blk_lt (g := gb312) (o := .cells #[.int .i64 a0_0, .int .i64 a0_1, .int .i64 a0_2, .int .i64 a0_3, .int .i64 a0_4] 42 (0, 0)) (by (with_reducible repeat (first | refine blk_drewN ?_ _ | refine blk_drew ?_ | refine blk_alloc ?_ _)); exact BK312.out)) : gb312 ≠ gb314)); have n7_ := Aside0.mk ((by rw [hg]; exact Nat.ne_of_gt (blk_lt (g := gb312) (o := .cells #[.int .i64 a0_0, .int .i64 a0_1, .int .i64 a0_2, .int .i64 a0_3, .int .i64 a0_4] 42 (0, 0)) (by (with_reducible repeat (first | refine blk_drewN ?_ _ | refine blk_drew ?_ | refine blk_alloc ?_ _)); exact BK312.out)) : gb314 ≠ gb312)); have n8_ := Aside0.mk ((by rw [hg]; exact Nat.ne_of_lt (blk_lt (g := gb313) (o := .cells #[.int .i64 0, .int .i64 0, .int .i64 0, .int .i64 0, .int .i64 0] 42 (0, 0)) (by (with_reducible repeat (first | refine blk_drewN ?_ _ | refine blk_drew ?_ | refine blk_alloc ?_ _)); exact BK313.out)) : gb313 ≠ gb314)); have n9_ := Aside0.mk ((by rw [hg]; exact Nat.ne_of_gt (blk_lt (g := gb313) (o := .cells #[.int .i64 0, .int .i64 0, .int .i64 0, .int .i64 0, .int .i64 0] 42 (0, 0)) (by (with_reducible repeat (first | refine blk_drewN ?_ _ | refine blk_drew ?_ | refine blk_alloc ?_ _)); exact BK313.out)) : gb314 ≠ gb313)); clear BK312; clear BK313; clear HB; have BK312 := n0_; have BK313 := n1_; have HB := n2_; have BK314 := n3_; have GW314 := n4_; have GE314 := n5_; have NB312_314 := n6_; have NB314_312 := n7_; have NB313_314 := n8_; have NB314_313 := n9_; clear n0_ n1_ n2_ n3_ n4_ n5_ n6_ n7_ n8_ n9_; clear hb hbox hg; have hnb8 := NB314_312.out; have hnc8 := NB312_314.out; have hnb9 := NB314_313.out; have hnc9 := NB313_314.out; have hcz10_0 : w7.cell? ⟨gb314, 0, none⟩ = some (.int .i64 0) := (blk_cell BK314.out 0).trans rfl; have hcz10_1 : w7.cell? ⟨gb314, 1, none⟩ = some (.int .i64 0) := (blk_cell BK314.out 1).trans rfl; have hcz10_2 : w7.cell? ⟨gb314, 2, none⟩ = some (.int .i64 0) := (blk_cell BK314.out 2).trans rfl; have hcz10_3 : w7.cell? ⟨gb314, 3, none⟩ = some (.int .i64 0) := (blk_cell BK314.out 3).trans rfl; have hcz10_4 : w7.cell? ⟨gb314, 4, none⟩ = some (.int .i64 0) := (blk_cell BK314.out 4).trans rfl; have hfz10_0 := blk_frozen BK314.out 0; have hfz10_1 := blk_frozen BK314.out 1; have hfz10_2 := blk_frozen BK314.out 2; have hfz10_3 := blk_frozen BK314.out 3; have hfz10_4 := blk_frozen BK314.out 4))
  go_loopg [8] k (fun kq v8 w' => ∃ (x8_1 : Int) (x313000_1 : Int) (x313001_1 : Int) (x313002_1 : Int) (x313003_1 : Int) (x313004_1 : Int) (x314000_1 : Int) (x314001_1 : Int) (x314002_1 : Int) (x314003_1 : Int) (x314004_1 : Int), v8 = .int .i64 x8_1 ∧ Aside0 (bywashref1_Apply.l0 kq l1 x8_1 x313000_1 x313001_1 x313002_1 x313003_1 x313004_1 a0_0 a0_1 a0_2 a0_3 a0_4 = some (r1, r2, r3, r4, r5, r6, r7)) ∧ Aside0 (kq ≤ k) ∧ Aside0 (w'.heap[gb312]? = some (.cells #[.int .i64 x313000_1, .int .i64 x313001_1, .int .i64 x313002_1, .int .i64 x313003_1, .int .i64 x313004_1] 42 (0, 0))) ∧ Aside0 (w'.heap[gb313]? = some (.cells #[.int .i64 x314000_1, .int .i64 x314001_1, .int .i64 x314002_1, .int .i64 x314003_1, .int .i64 x314004_1] 42 (0, 0))) ∧ Aside0 (w'.heap[gb314]? = some (.cells #[.int .i64 a0_0, .int .i64 a0_1, .int .i64 a0_2, .int .i64 a0_3, .int .i64 a0_4] 42 (0, 0))) ∧ Aside0 (Below w.heap.size w w'))
  case atStart => exact ⟨(0), (a0_0), (a0_1), (a0_2), (a0_3), (a0_4), (0), (0), (0), (0), (0), (by first | rfl | (simp; done) | (simp [*]; done)), H', ⟨Nat.le_refl _⟩, ⟨by (with_reducible repeat (first | refine blk_drewN ?_ _ | refine blk_drew ?_ | refine blk_alloc ?_ _)); refine blk_far ?_ NB312_314.out _; (with_reducible repeat (first | refine blk_drewN ?_ _ | refine blk_drew ?_ | refine blk_alloc ?_ _)); refine blk_far ?_ NB312_314.out _; (with_reducible repeat (first | refine blk_drewN ?_ _ | refine blk_drew ?_ | refine blk_alloc ?_ _)); refine blk_far ?_ NB312_314.out _; (with_reducible repeat (first | refine blk_drewN ?_ _ | refine blk_drew ?_ | refine blk_alloc ?_ _)); refine blk_far ?_ NB312_314.out _; (with_reducible repeat (first | refine blk_drewN ?_ _ | refine blk_drew ?_ | refine blk_alloc ?_ _)); refine blk_far ?_ NB312_314.out _; (with_reducible repeat (first | refine blk_drewN ?_ _ | refine blk_drew ?_ | refine blk_alloc ?_ _)); exact BK312.out⟩, ⟨by (with_reducible repeat (first | refine blk_drewN ?_ _ | refine blk_drew ?_ | refine blk_alloc ?_ _)); refine blk_far ?_ NB313_314.out _; (with_reducible repeat (first | refine blk_drewN ?_ _ | refine blk_drew ?_ | refine blk_alloc ?_ _)); refine blk_far ?_ NB313_314.out _; (with_reducible repeat (first | refine blk_drewN ?_ _ | refine blk_drew ?_ | refine blk_alloc ?_ _)); refine blk_far ?_ NB313_314.out _; (with_reducible repeat (first | refine blk_drewN ?_ _ | refine blk_drew ?_ | refine blk_alloc ?_ _)); refine blk_far ?_ NB313_314.out _; (with_reducible repeat (first | refine blk_drewN ?_ _ | refine blk_drew ?_ | refine blk_alloc ?_ _)); refine blk_far ?_ NB313_314.out _; (with_reducible repeat (first | refine blk_drewN ?_ _ | refine blk_drew ?_ | refine blk_alloc ?_ _)); exact BK313.out⟩, ⟨by (with_reducible repeat (first | refine blk_drewN ?_ _ | refine blk_drew ?_ | refine blk_alloc ?_ _)); refine blk_put (cs := #[.int .i64 a0_0, .int .i64 a0_1, .int .i64 a0_2, .int .i64 a0_3, .int .i64 0]) ?_ 4 _ rfl; (with_reducible repeat (first | refine blk_drewN ?_ _ | refine blk_drew ?_ | refine blk_alloc ?_ _)); refine blk_put (cs := #[.int .i64 a0_0, .int .i64 a0_1, .int .i64 a0_2, .int .i64 0, .int .i64 0]) ?_ 3 _ rfl; (with_reducible repeat (first | refine blk_drewN ?_ _ | refine blk_drew ?_ | refine blk_alloc ?_ _)); refine blk_put (cs := #[.int .i64 a0_0, .int .i64 a0_1, .int .i64 0, .int .i64 0, .int .i64 0]) ?_ 2 _ rfl; (with_reducible repeat (first | refine blk_drewN ?_ _ | refine blk_drew ?_ | refine blk_alloc ?_ _)); refine blk_put (cs := #[.int .i64 a0_0, .int .i64 0, .int .i64 0, .int .i64 0, .int .i64 0]) ?_ 1 _ rfl; (with_reducible repeat (first | refine blk_drewN ?_ _ | refine blk_drew ?_ | refine blk_alloc ?_ _)); refine blk_put (cs := #[.int .i64 0, .int .i64 0, .int .i64 0, .int .i64 0, .int .i64 0]) ?_ 0 _ rfl; (with_reducible repeat (first | refine blk_drewN ?_ _ | refine blk_drew ?_ | refine blk_alloc ?_ _)); exact BK314.out⟩, ⟨by repeat (first | (with_reducible first | exact HB.out | apply below_alloc | apply pw_below_drewN | apply below_drew1 | refine below_set ?_ GE312.out | refine below_set ?_ GE313.out | refine below_set ?_ GE314.out) | exact HB.out)⟩⟩
  case round =>
    clear H'
    try clear c1
    try clear c2
    try clear p2
    try clear c5
    try clear c8
    try clear c9
    try clear hcz10_0
    try clear hcz10_1
    try clear hcz10_2
    try clear hcz10_3
    try clear hcz10_4
    try clear hcz6_0
    try clear hcz6_1
    try clear hcz6_2
    try clear hcz6_3
    try clear hcz6_4
    try clear hfz10_0
    try clear hfz10_1
    try clear hfz10_2
    try clear hfz10_3
    try clear hfz10_4
    try clear hfz6_0
    try clear hfz6_1
    try clear hfz6_2
    try clear hfz6_3
    try clear hfz6_4
    obtain ⟨x8_1, x313000_1, x313001_1, x313002_1, x313003_1, x313004_1, x314000_1, x314001_1, x314002_1, x314003_1, x314004_1, rfl, HA, HK1, BK312, BK313, BK314, HB⟩ := hrel
    cases gk with
    | zero => exact absurd HA.out (by simp [bywashref1_Apply.l0])
    | succ k1 =>
      have H := HA.out
      clear HA
      simp only [bywashref1_Apply.l0] at H
      by_cases c11 : x8_1 < (l1.length : Int)
      · rw [if_pos c11] at H
        have c11b0 : decide (x8_1 < (l1.length : Int)) = true := decide_eq_true c11
        clear c11
        by_cases c12 : 0 ≤ x8_1
        · rw [if_pos c12] at H
          have c12b0 : decide (0 ≤ x8_1) = true := decide_eq_true c12
          clear c12
          by_cases c13 : ((rd_T48 l1 x8_1).f0) = 1
          · rw [if_pos c13] at H
            have c13b0 : (((rd_T48 l1 x8_1).f0) == 1) = true := beq_iff_eq.mpr c13
            have c13b1 : (((rd_T48 l1 x8_1).f0) != 1) = false := bne_eq_false_iff_eq.mpr c13
            clear c13
            have H' := Aside0.mk H
            clear H
            have p315 : 0 ≤ (x8_1 : Int) := of_decide_eq_true (by first | (with_reducible assumption) | assumption)
            have q315 : x8_1 < (l1.length : Int) := of_decide_eq_true (by first | (with_reducible assumption) | assumption)
            obtain ⟨ad315, e315, hx315_0, hx315_1⟩ := at_T48 HR1.out x8_1 p315 q315
            cases e315
            replace hx315_0 := (HB.out.cell (World.block_lt_of_cell? w _ hx315_0)).trans hx315_0
            replace hx315_1 := (HB.out.cell (World.block_lt_of_cell? w _ hx315_1)).trans hx315_1
            replace p315 := eq_true p315
            replace q315 := eq_true q315
            have p316 : 0 ≤ (x8_1 : Int) := of_decide_eq_true (by first | (with_reducible assumption) | assumption)
            have q316 : x8_1 < (l1.length : Int) := of_decide_eq_true (by first | (with_reducible assumption) | assumption)
            obtain ⟨ad316, e316, hx316_0, hx316_1⟩ := at_T48 HR1.out x8_1 p316 q316
            obtain rfl : ad315 = ad316 := (by injection e316)
            replace hx316_0 := (HB.out.cell (World.block_lt_of_cell? w _ hx316_0)).trans hx316_0
            replace hx316_1 := (HB.out.cell (World.block_lt_of_cell? w _ hx316_1)).trans hx316_1
            replace p316 := eq_true p316
            replace q316 := eq_true q316
            have hnb14 := NB312_313.out
            have hnc14 := NB313_312.out
            have hnb15 := NB312_314.out
            have hnc15 := NB314_312.out
            have hcz16_0 : wr.cell? ⟨gb312, 0, none⟩ = some (.int .i64 x313000_1) := (blk_cell BK312.out 0).trans rfl
            have hcz16_1 : wr.cell? ⟨gb312, 1, none⟩ = some (.int .i64 x313001_1) := (blk_cell BK312.out 1).trans rfl
            have hcz16_2 : wr.cell? ⟨gb312, 2, none⟩ = some (.int .i64 x313002_1) := (blk_cell BK312.out 2).trans rfl
            have hcz16_3 : wr.cell? ⟨gb312, 3, none⟩ = some (.int .i64 x313003_1) := (blk_cell BK312.out 3).trans rfl
            have hcz16_4 : wr.cell? ⟨gb312, 4, none⟩ = some (.int .i64 x313004_1) := (blk_cell BK312.out 4).trans rfl
            have hfz16_0 := blk_frozen BK312.out 0
            have hfz16_1 := blk_frozen BK312.out 1
            have hfz16_2 := blk_frozen BK312.out 2
            have hfz16_3 := blk_frozen BK312.out 3
            have hfz16_4 := blk_frozen BK312.out 4
            go_wp2
            go_roundg k1
            case measure => have := HK1.out; omega
            case rel => exact ⟨(wrap64 (x8_1 + 1)), ((rd_T48 l1 x8_1).f1), (x313001_1), (x313002_1), (x313003_1), (x313004_1), (x314000_1), (x314001_1), (x314002_1), (x314003_1), (x314004_1), (by first | rfl | (simp; done) | (simp [*]; done)), H', ⟨by have := HK1.out; omega⟩, ⟨by (with_reducible repeat (first | refine blk_drewN ?_ _ | refine blk_drew ?_ | refine blk_alloc ?_ _)); refine blk_put (cs := #[.int .i64 x313000_1, .int .i64 x313001_1, .int .i64 x313002_1, .int .i64 x313003_1, .int .i64 x313004_1]) ?_ 0 _ rfl; (with_reducible repeat (first | refine blk_drewN ?_ _ | refine blk_drew ?_ | refine blk_alloc ?_ _)); exact BK312.out⟩, ⟨by (with_reducible repeat (first | refine blk_drewN ?_ _ | refine blk_drew ?_ | refine blk_alloc ?_ _)); refine blk_far ?_ NB313_312.out _; (with_reducible repeat (first | refine blk_drewN ?_ _ | refine blk_drew ?_ | refine blk_alloc ?_ _)); exact BK313.out⟩, ⟨by (with_reducible repeat (first | refine blk_drewN ?_ _ | refine blk_drew ?_ | refine blk_alloc ?_ _)); refine blk_far ?_ NB314_312.out _; (with_reducible repeat (first | refine blk_drewN ?_ _ | refine blk_drew ?_ | refine blk_alloc ?_ _)); exact BK314.out⟩, ⟨by repeat (first | (with_reducible first | exact HB.out | apply below_alloc | apply pw_below_drewN | apply below_drew1 | refine below_set ?_ GE312.out | refine below_set ?_ GE313.out | refine below_set ?_ GE314.out) | exact HB.out)⟩⟩
          · rw [if_neg c13] at H
            have c13b0 : (((rd_T48 l1 x8_1).f0) == 1) = false := beq_eq_false_iff_ne.mpr c13
            have c13b1 : (((rd_T48 l1 x8_1).f0) != 1) = true := bne_iff_ne.mpr c13
            by_cases c17 : ((rd_T48 l1 x8_1).f0) = 3
            · rw [if_pos c17] at H
              have c17b0 : (((rd_T48 l1 x8_1).f0) == 3) = true := beq_iff_eq.mpr c17
              have c17b1 : (((rd_T48 l1 x8_1).f0) != 3) = false := bne_eq_false_iff_eq.mpr c17
              clear c17
              obtain ⟨ji18, hji18⟩ : ∃ j_ : Int, (mn ((rd_T48 l1 x8_1).f1) 6) = j_ := ⟨_, rfl⟩
              replace H : (bywashref1_Apply.l0 k1 l1 (wrap64 (x8_1 + 1)) x313000_1 ji18 x313002_1 x313003_1 x313004_1 a0_0 a0_1 a0_2 a0_3 a0_4) = some (r1, r2, r3, r4, r5, r6, r7) := by first | (rw [hji18] at H; exact H) | (simp only [hji18] at H ⊢; exact H)
              have hji18_ : (if 6 < ((rd_T48 l1 x8_1).f1) then 6 else ((rd_T48 l1 x8_1).f1)) = ji18 := hji18
              have H' := Aside0.mk H
              clear H
              have p315 : 0 ≤ (x8_1 : Int) := of_decide_eq_true (by first | (with_reducible assumption) | assumption)
              have q315 : x8_1 < (l1.length : Int) := of_decide_eq_true (by first | (with_reducible assumption) | assumption)
              obtain ⟨ad315, e315, hx315_0, hx315_1⟩ := at_T48 HR1.out x8_1 p315 q315
              cases e315
              replace hx315_0 := (HB.out.cell (World.block_lt_of_cell? w _ hx315_0)).trans hx315_0
              replace hx315_1 := (HB.out.cell (World.block_lt_of_cell? w _ hx315_1)).trans hx315_1
              replace p315 := eq_true p315
              replace q315 := eq_true q315
              have p316 : 0 ≤ (x8_1 : Int) := of_decide_eq_true (by first | (with_reducible assumption) | assumption)
              have q316 : x8_1 < (l1.length : Int) := of_decide_eq_true (by first | (with_reducible assumption) | assumption)
              obtain ⟨ad316, e316, hx316_0, hx316_1⟩ := at_T48 HR1.out x8_1 p316 q316
              obtain rfl : ad315 = ad316 := (by injection e316)
              replace hx316_0 := (HB.out.cell (World.block_lt_of_cell? w _ hx316_0)).trans hx316_0
              replace hx316_1 := (HB.out.cell (World.block_lt_of_cell? w _ hx316_1)).trans hx316_1
              replace p316 := eq_true p316
              replace q316 := eq_true q316
              have hnb19 := NB312_313.out
              have hnc19 := NB313_312.out
              have hnb20 := NB312_314.out
              have hnc20 := NB314_312.out
              have hcz21_0 : wr.cell? ⟨gb312, 0, none⟩ = some (.int .i64 x313000_1) := (blk_cell BK312.out 0).trans rfl
              have hcz21_1 : wr.cell? ⟨gb312, 1, none⟩ = some (.int .i64 x313001_1) := (blk_cell BK312.out 1).trans rfl
              have hcz21_2 : wr.cell? ⟨gb312, 2, none⟩ = some (.int .i64 x313002_1) := (blk_cell BK312.out 2).trans rfl
              have hcz21_3 : wr.cell? ⟨gb312, 3, none⟩ = some (.int .i64 x313003_1) := (blk_cell BK312.out 3).trans rfl
              have hcz21_4 : wr.cell? ⟨gb312, 4, none⟩ = some (.int .i64 x313004_1) := (blk_cell BK312.out 4).trans rfl
              have hfz21_0 := blk_frozen BK312.out 0
              have hfz21_1 := blk_frozen BK312.out 1
              have hfz21_2 := blk_frozen BK312.out 2
              have hfz21_3 := blk_frozen BK312.out 3
              have hfz21_4 := blk_frozen BK312.out 4
              go_wp2
              go_roundg k1
              case measure => have := HK1.out; omega
              case rel => exact ⟨(wrap64 (x8_1 + 1)), (x313000_1), (ji18), (x313002_1), (x313003_1), (x313004_1), (x314000_1), (x314001_1), (x314002_1), (x314003_1), (x314004_1), (by first | rfl | (simp; done) | (simp [*]; done)), H', ⟨by have := HK1.out; omega⟩, ⟨by (with_reducible repeat (first | refine blk_drewN ?_ _ | refine blk_drew ?_ | refine blk_alloc ?_ _)); refine blk_put (cs := #[.int .i64 x313000_1, .int .i64 x313001_1, .int .i64 x313002_1, .int .i64 x313003_1, .int .i64 x313004_1]) ?_ 1 _ rfl; (with_reducible repeat (first | refine blk_drewN ?_ _ | refine blk_drew ?_ | refine blk_alloc ?_ _)); exact BK312.out⟩, ⟨by (with_reducible repeat (first | refine blk_drewN ?_ _ | refine blk_drew ?_ | refine blk_alloc ?_ _)); refine blk_far ?_ NB313_312.out _; (with_reducible repeat (first | refine blk_drewN ?_ _ | refine blk_drew ?_ | refine blk_alloc ?_ _)); exact BK313.out⟩, ⟨by (with_reducible repeat (first | refine blk_drewN ?_ _ | refine blk_drew ?_ | refine blk_alloc ?_ _)); refine blk_far ?_ NB314_312.out _; (with_reducible repeat (first | refine blk_drewN ?_ _ | refine blk_drew ?_ | refine blk_alloc ?_ _)); exact BK314.out⟩, ⟨by repeat (first | (with_reducible first | exact HB.out | apply below_alloc | apply pw_below_drewN | apply below_drew1 | refine below_set ?_ GE312.out | refine below_set ?_ GE313.out | refine below_set ?_ GE314.out) | exact HB.out)⟩⟩
            · rw [if_neg c17] at H
              have c17b0 : (((rd_T48 l1 x8_1).f0) == 3) = false := beq_eq_false_iff_ne.mpr c17
              have c17b1 : (((rd_T48 l1 x8_1).f0) != 3) = true := bne_iff_ne.mpr c17
              by_cases c22 : ((rd_T48 l1 x8_1).f0) = 4
              · rw [if_pos c22] at H
                have c22b0 : (((rd_T48 l1 x8_1).f0) == 4) = true := beq_iff_eq.mpr c22
                have c22b1 : (((rd_T48 l1 x8_1).f0) != 4) = false := bne_eq_false_iff_eq.mpr c22
                clear c22
                by_cases c23 : ((rd_T48 l1 x8_1).f1) > 2147483647
                · rw [if_pos c23] at H
                  have c23b0 : decide (2147483647 < ((rd_T48 l1 x8_1).f1)) = true := decide_eq_true c23
                  clear c23
                  simp only [Option.some.injEq, Prod.mk.injEq] at H
                  obtain ⟨rfl, rfl, rfl, rfl, rfl, rfl, rfl⟩ := H
                  have p315 : 0 ≤ (x8_1 : Int) := of_decide_eq_true (by first | (with_reducible assumption) | assumption)
                  have q315 : x8_1 < (l1.length : Int) := of_decide_eq_true (by first | (with_reducible assumption) | assumption)
                  obtain ⟨ad315, e315, hx315_0, hx315_1⟩ := at_T48 HR1.out x8_1 p315 q315
                  cases e315
                  replace hx315_0 := (HB.out.cell (World.block_lt_of_cell? w _ hx315_0)).trans hx315_0
                  replace hx315_1 := (HB.out.cell (World.block_lt_of_cell? w _ hx315_1)).trans hx315_1
                  replace p315 := eq_true p315
                  replace q315 := eq_true q315
                  have p316 : 0 ≤ (x8_1 : Int) := of_decide_eq_true (by first | (with_reducible assumption) | assumption)
                  have q316 : x8_1 < (l1.length : Int) := of_decide_eq_true (by first | (with_reducible assumption) | assumption)
                  obtain ⟨ad316, e316, hx316_0, hx316_1⟩ := at_T48 HR1.out x8_1 p316 q316
                  obtain rfl : ad315 = ad316 := (by injection e316)
                  replace hx316_0 := (HB.out.cell (World.block_lt_of_cell? w _ hx316_0)).trans hx316_0
                  replace hx316_1 := (HB.out.cell (World.block_lt_of_cell? w _ hx316_1)).trans hx316_1
                  replace p316 := eq_true p316
                  replace q316 := eq_true q316
                  have hnb24 := NB314_312.out
                  have hnc24 := NB312_314.out
                  have hnb25 := NB314_313.out
                  have hnc25 := NB313_314.out
                  have hcz26_0 : wr.cell? ⟨gb314, 0, none⟩ = some (.int .i64 a0_0) := (blk_cell BK314.out 0).trans rfl
                  have hcz26_1 : wr.cell? ⟨gb314, 1, none⟩ = some (.int .i64 a0_1) := (blk_cell BK314.out 1).trans rfl
                  have hcz26_2 : wr.cell? ⟨gb314, 2, none⟩ = some (.int .i64 a0_2) := (blk_cell BK314.out 2).trans rfl
                  have hcz26_3 : wr.cell? ⟨gb314, 3, none⟩ = some (.int .i64 a0_3) := (blk_cell BK314.out 3).trans rfl
                  have hcz26_4 : wr.cell? ⟨gb314, 4, none⟩ = some (.int .i64 a0_4) := (blk_cell BK314.out 4).trans rfl
                  have hfz26_0 := blk_frozen BK314.out 0
                  have hfz26_1 := blk_frozen BK314.out 1
                  have hfz26_2 := blk_frozen BK314.out 2
                  have hfz26_3 := blk_frozen BK314.out 3
                  have hfz26_4 := blk_frozen BK314.out 4
                  have hnb27 := NB313_312.out
                  have hnc27 := NB312_313.out
                  have hcz28_0 : wr.cell? ⟨gb313, 0, none⟩ = some (.int .i64 x314000_1) := (blk_cell BK313.out 0).trans rfl
                  have hcz28_1 : wr.cell? ⟨gb313, 1, none⟩ = some (.int .i64 x314001_1) := (blk_cell BK313.out 1).trans rfl
                  have hcz28_2 : wr.cell? ⟨gb313, 2, none⟩ = some (.int .i64 x314002_1) := (blk_cell BK313.out 2).trans rfl
                  have hcz28_3 : wr.cell? ⟨gb313, 3, none⟩ = some (.int .i64 x314003_1) := (blk_cell BK313.out 3).trans rfl
                  have hcz28_4 : wr.cell? ⟨gb313, 4, none⟩ = some (.int .i64 x314004_1) := (blk_cell BK313.out 4).trans rfl
                  have hfz28_0 := blk_frozen BK313.out 0
                  have hfz28_1 := blk_frozen BK313.out 1
                  have hfz28_2 := blk_frozen BK313.out 2
                  have hfz28_3 := blk_frozen BK313.out 3
                  have hfz28_4 := blk_frozen BK313.out 4
                  go_wp2
                  refine bodyPost_ret (results_ctt rfl _ _ gb313 42 #[.int .i64 a0_0, .int .i64 a0_1, .int .i64 a0_2, .int .i64 a0_3, .int .i64 a0_4] (0, 0) _ rfl (by (with_reducible repeat (first | refine blk_drewN ?_ _ | refine blk_drew ?_ | refine blk_alloc ?_ _)); refine blk_put (cs := #[.int .i64 a0_0, .int .i64 a0_1, .int .i64 a0_2, .int .i64 a0_3, .int .i64 x314004_1]) ?_ 4 _ rfl; (with_reducible repeat (first | refine blk_drewN ?_ _ | refine blk_drew ?_ | refine blk_alloc ?_ _)); refine blk_put (cs := #[.int .i64 a0_0, .int .i64 a0_1, .int .i64 a0_2, .int .i64 x314003_1, .int .i64 x314004_1]) ?_ 3 _ rfl; (with_reducible repeat (first | refine blk_drewN ?_ _ | refine blk_drew ?_ | refine blk_alloc ?_ _)); refine blk_put (cs := #[.int .i64 a0_0, .int .i64 a0_1, .int .i64 x314002_1, .int .i64 x314003_1, .int .i64 x314004_1]) ?_ 2 _ rfl; (with_reducible repeat (first | refine blk_drewN ?_ _ | refine blk_drew ?_ | refine blk_alloc ?_ _)); refine blk_put (cs := #[.int .i64 a0_0, .int .i64 x314001_1, .int .i64 x314002_1, .int .i64 x314003_1, .int .i64 x314004_1]) ?_ 1 _ rfl; (with_reducible repeat (first | refine blk_drewN ?_ _ | refine blk_drew ?_ | refine blk_alloc ?_ _)); refine blk_put (cs := #[.int .i64 x314000_1, .int .i64 x314001_1, .int .i64 x314002_1, .int .i64 x314003_1, .int .i64 x314004_1]) ?_ 0 _ rfl; (with_reducible repeat (first | refine blk_drewN ?_ _ | refine blk_drew ?_ | refine blk_alloc ?_ _)); exact BK313.out) Try.underlying42 rfl (by kernel_rfl)) rfl ?_
                  exact ⟨by first | rfl | (simp [errW_none, errW_some] <;> rfl) | (simp [*, errW_none, errW_some] <;> rfl), by repeat (first | (with_reducible first | exact HB.out | apply below_alloc | apply pw_below_drewN | apply below_drew1 | refine below_set ?_ GE312.out | refine below_set ?_ GE313.out | refine below_set ?_ GE314.out) | exact HB.out)⟩
                · rw [if_neg c23] at H
                  have c23b0 : decide (2147483647 < ((rd_T48 l1 x8_1).f1)) = false := decide_eq_false c23
                  clear c23
                  have H' := Aside0.mk H
                  clear H
                  have p315 : 0 ≤ (x8_1 : Int) := of_decide_eq_true (by first | (with_reducible assumption) | assumption)
                  have q315 : x8_1 < (l1.length : Int) := of_decide_eq_true (by first | (with_reducible assumption) | assumption)
                  obtain ⟨ad315, e315, hx315_0, hx315_1⟩ := at_T48 HR1.out x8_1 p315 q315
                  cases e315
                  replace hx315_0 := (HB.out.cell (World.block_lt_of_cell? w _ hx315_0)).trans hx315_0
                  replace hx315_1 := (HB.out.cell (World.block_lt_of_cell? w _ hx315_1)).trans hx315_1
                  replace p315 := eq_true p315
                  replace q315 := eq_true q315
                  have p316 : 0 ≤ (x8_1 : Int) := of_decide_eq_true (by first | (with_reducible assumption) | assumption)
                  have q316 : x8_1 < (l1.length : Int) := of_decide_eq_true (by first | (with_reducible assumption) | assumption)
                  obtain ⟨ad316, e316, hx316_0, hx316_1⟩ := at_T48 HR1.out x8_1 p316 q316
                  obtain rfl : ad315 = ad316 := (by injection e316)
                  replace hx316_0 := (HB.out.cell (World.block_lt_of_cell? w _ hx316_0)).trans hx316_0
                  replace hx316_1 := (HB.out.cell (World.block_lt_of_cell? w _ hx316_1)).trans hx316_1
                  replace p316 := eq_true p316
                  replace q316 := eq_true q316
                  have hnb29 := NB312_313.out
                  have hnc29 := NB313_312.out
                  have hnb30 := NB312_314.out
                  have hnc30 := NB314_312.out
                  have hcz31_0 : wr.cell? ⟨gb312, 0, none⟩ = some (.int .i64 x313000_1) := (blk_cell BK312.out 0).trans rfl
                  have hcz31_1 : wr.cell? ⟨gb312, 1, none⟩ = some (.int .i64 x313001_1) := (blk_cell BK312.out 1).trans rfl
                  have hcz31_2 : wr.cell? ⟨gb312, 2, none⟩ = some (.int .i64 x313002_1) := (blk_cell BK312.out 2).trans rfl
                  have hcz31_3 : wr.cell? ⟨gb312, 3, none⟩ = some (.int .i64 x313003_1) := (blk_cell BK312.out 3).trans rfl
                  have hcz31_4 : wr.cell? ⟨gb312, 4, none⟩ = some (.int .i64 x313004_1) := (blk_cell BK312.out 4).trans rfl
                  have hfz31_0 := blk_frozen BK312.out 0
                  have hfz31_1 := blk_frozen BK312.out 1
                  have hfz31_2 := blk_frozen BK312.out 2
                  have hfz31_3 := blk_frozen BK312.out 3
                  have hfz31_4 := blk_frozen BK312.out 4
                  go_wp2
                  go_roundg k1
                  case measure => have := HK1.out; omega
                  case rel => exact ⟨(wrap64 (x8_1 + 1)), (x313000_1), (x313001_1), ((rd_T48 l1 x8_1).f1), (x313003_1), (x313004_1), (x314000_1), (x314001_1), (x314002_1), (x314003_1), (x314004_1), (by first | rfl | (simp; done) | (simp [*]; done)), H', ⟨by have := HK1.out; omega⟩, ⟨by (with_reducible repeat (first | refine blk_drewN ?_ _ | refine blk_drew ?_ | refine blk_alloc ?_ _)); refine blk_put (cs := #[.int .i64 x313000_1, .int .i64 x313001_1, .int .i64 x313002_1, .int .i64 x313003_1, .int .i64 x313004_1]) ?_ 2 _ rfl; (with_reducible repeat (first | refine blk_drewN ?_ _ | refine blk_drew ?_ | refine blk_alloc ?_ _)); exact BK312.out⟩, ⟨by (with_reducible repeat (first | refine blk_drewN ?_ _ | refine blk_drew ?_ | refine blk_alloc ?_ _)); refine blk_far ?_ NB313_312.out _; (with_reducible repeat (first | refine blk_drewN ?_ _ | refine blk_drew ?_ | refine blk_alloc ?_ _)); exact BK313.out⟩, ⟨by (with_reducible repeat (first | refine blk_drewN ?_ _ | refine blk_drew ?_ | refine blk_alloc ?_ _)); refine blk_far ?_ NB314_312.out _; (with_reducible repeat (first | refine blk_drewN ?_ _ | refine blk_drew ?_ | refine blk_alloc ?_ _)); exact BK314.out⟩, ⟨by repeat (first | (with_reducible first | exact HB.out | apply below_alloc | apply pw_below_drewN | apply below_drew1 | refine below_set ?_ GE312.out | refine below_set ?_ GE313.out | refine below_set ?_ GE314.out) | exact HB.out)⟩⟩
              · rw [if_neg c22] at H
                have c22b0 : (((rd_T48 l1 x8_1).f0) == 4) = false := beq_eq_false_iff_ne.mpr c22
                have c22b1 : (((rd_T48 l1 x8_1).f0) != 4) = true := bne_iff_ne.mpr c22
                by_cases c32 : ((rd_T48 l1 x8_1).f0) = 5
                · rw [if_pos c32] at H
                  have c32b0 : (((rd_T48 l1 x8_1).f0) == 5) = true := beq_iff_eq.mpr c32
                  have c32b1 : (((rd_T48 l1 x8_1).f0) != 5) = false := bne_eq_false_iff_eq.mpr c32
                  clear c32
                  by_cases c33 : ((rd_T48 l1 x8_1).f1) < 64
                  · rw [if_pos c33] at H
                    have c33b0 : decide (((rd_T48 l1 x8_1).f1) < 64) = true := decide_eq_true c33
                    clear c33
                    simp only [Option.some.injEq, Prod.mk.injEq] at H
                    obtain ⟨rfl, rfl, rfl, rfl, rfl, rfl, rfl⟩ := H
                    have p315 : 0 ≤ (x8_1 : Int) := of_decide_eq_true (by first | (with_reducible assumption) | assumption)
                    have q315 : x8_1 < (l1.length : Int) := of_decide_eq_true (by first | (with_reducible assumption) | assumption)
                    obtain ⟨ad315, e315, hx315_0, hx315_1⟩ := at_T48 HR1.out x8_1 p315 q315
                    cases e315
                    replace hx315_0 := (HB.out.cell (World.block_lt_of_cell? w _ hx315_0)).trans hx315_0
                    replace hx315_1 := (HB.out.cell (World.block_lt_of_cell? w _ hx315_1)).trans hx315_1
                    replace p315 := eq_true p315
                    replace q315 := eq_true q315
                    have p316 : 0 ≤ (x8_1 : Int) := of_decide_eq_true (by first | (with_reducible assumption) | assumption)
                    have q316 : x8_1 < (l1.length : Int) := of_decide_eq_true (by first | (with_reducible assumption) | assumption)
                    obtain ⟨ad316, e316, hx316_0, hx316_1⟩ := at_T48 HR1.out x8_1 p316 q316
                    obtain rfl : ad315 = ad316 := (by injection e316)
                    replace hx316_0 := (HB.out.cell (World.block_lt_of_cell? w _ hx316_0)).trans hx316_0
                    replace hx316_1 := (HB.out.cell (World.block_lt_of_cell? w _ hx316_1)).trans hx316_1
                    replace p316 := eq_true p316
                    replace q316 := eq_true q316
                    have hnb34 := NB314_312.out
                    have hnc34 := NB312_314.out
                    have hnb35 := NB314_313.out
                    have hnc35 := NB313_314.out
                    have hcz36_0 : wr.cell? ⟨gb314, 0, none⟩ = some (.int .i64 a0_0) := (blk_cell BK314.out 0).trans rfl
                    have hcz36_1 : wr.cell? ⟨gb314, 1, none⟩ = some (.int .i64 a0_1) := (blk_cell BK314.out 1).trans rfl
                    have hcz36_2 : wr.cell? ⟨gb314, 2, none⟩ = some (.int .i64 a0_2) := (blk_cell BK314.out 2).trans rfl
                    have hcz36_3 : wr.cell? ⟨gb314, 3, none⟩ = some (.int .i64 a0_3) := (blk_cell BK314.out 3).trans rfl
                    have hcz36_4 : wr.cell? ⟨gb314, 4, none⟩ = some (.int .i64 a0_4) := (blk_cell BK314.out 4).trans rfl
                    have hfz36_0 := blk_frozen BK314.out 0
                    have hfz36_1 := blk_frozen BK314.out 1
                    have hfz36_2 := blk_frozen BK314.out 2
                    have hfz36_3 := blk_frozen BK314.out 3
                    have hfz36_4 := blk_frozen BK314.out 4
                    have hnb37 := NB313_312.out
                    have hnc37 := NB312_313.out
                    have hcz38_0 : wr.cell? ⟨gb313, 0, none⟩ = some (.int .i64 x314000_1) := (blk_cell BK313.out 0).trans rfl
                    have hcz38_1 : wr.cell? ⟨gb313, 1, none⟩ = some (.int .i64 x314001_1) := (blk_cell BK313.out 1).trans rfl
                    have hcz38_2 : wr.cell? ⟨gb313, 2, none⟩ = some (.int .i64 x314002_1) := (blk_cell BK313.out 2).trans rfl
                    have hcz38_3 : wr.cell? ⟨gb313, 3, none⟩ = some (.int .i64 x314003_1) := (blk_cell BK313.out 3).trans rfl
                    have hcz38_4 : wr.cell? ⟨gb313, 4, none⟩ = some (.int .i64 x314004_1) := (blk_cell BK313.out 4).trans rfl
                    have hfz38_0 := blk_frozen BK313.out 0
                    have hfz38_1 := blk_frozen BK313.out 1
                    have hfz38_2 := blk_frozen BK313.out 2
                    have hfz38_3 := blk_frozen BK313.out 3
                    have hfz38_4 := blk_frozen BK313.out 4
                    go_wp2
                    refine bodyPost_ret (results_ctt rfl _ _ gb313 42 #[.int .i64 a0_0, .int .i64 a0_1, .int .i64 a0_2, .int .i64 a0_3, .int .i64 a0_4] (0, 0) _ rfl (by (with_reducible repeat (first | refine blk_drewN ?_ _ | refine blk_drew ?_ | refine blk_alloc ?_ _)); refine blk_put (cs := #[.int .i64 a0_0, .int .i64 a0_1, .int .i64 a0_2, .int .i64 a0_3, .int .i64 x314004_1]) ?_ 4 _ rfl; (with_reducible repeat (first | refine blk_drewN ?_ _ | refine blk_drew ?_ | refine blk_alloc ?_ _)); refine blk_put (cs := #[.int .i64 a0_0, .int .i64 a0_1, .int .i64 a0_2, .int .i64 x314003_1, .int .i64 x314004_1]) ?_ 3 _ rfl; (with_reducible repeat (first | refine blk_drewN ?_ _ | refine blk_drew ?_ | refine blk_alloc ?_ _)); refine blk_put (cs := #[.int .i64 a0_0, .int .i64 a0_1, .int .i64 x314002_1, .int .i64 x314003_1, .int .i64 x314004_1]) ?_ 2 _ rfl; (with_reducible repeat (first | refine blk_drewN ?_ _ | refine blk_drew ?_ | refine blk_alloc ?_ _)); refine blk_put (cs := #[.int .i64 a0_0, .int .i64 x314001_1, .int .i64 x314002_1, .int .i64 x314003_1, .int .i64 x314004_1]) ?_ 1 _ rfl; (with_reducible repeat (first | refine blk_drewN ?_ _ | refine blk_drew ?_ | refine blk_alloc ?_ _)); refine blk_put (cs := #[.int .i64 x314000_1, .int .i64 x314001_1, .int .i64 x314002_1, .int .i64 x314003_1, .int .i64 x314004_1]) ?_ 0 _ rfl; (with_reducible repeat (first | refine blk_drewN ?_ _ | refine blk_drew ?_ | refine blk_alloc ?_ _)); exact BK313.out) Try.underlying42 rfl (by kernel_rfl)) rfl ?_
                    exact ⟨by first | rfl | (simp [errW_none, errW_some] <;> rfl) | (simp [*, errW_none, errW_some] <;> rfl), by repeat (first | (with_reducible first | exact HB.out | apply below_alloc | apply pw_below_drewN | apply below_drew1 | refine below_set ?_ GE312.out | refine below_set ?_ GE313.out | refine below_set ?_ GE314.out) | exact HB.out)⟩
                  · rw [if_neg c33] at H
                    have c33b0 : decide (((rd_T48 l1 x8_1).f1) < 64) = false := decide_eq_false c33
                    clear c33
                    by_cases c39 : ((rd_T48 l1 x8_1).f1) > 16777215
                    · rw [if_pos c39] at H
                      have c39b0 : decide (16777215 < ((rd_T48 l1 x8_1).f1)) = true := decide_eq_true c39
                      clear c39
                      simp only [Option.some.injEq, Prod.mk.injEq] at H
                      obtain ⟨rfl, rfl, rfl, rfl, rfl, rfl, rfl⟩ := H
                      have p315 : 0 ≤ (x8_1 : Int) := of_decide_eq_true (by first | (with_reducible assumption) | assumption)
                      have q315 : x8_1 < (l1.length : Int) := of_decide_eq_true (by first | (with_reducible assumption) | assumption)
                      obtain ⟨ad315, e315, hx315_0, hx315_1⟩ := at_T48 HR1.out x8_1 p315 q315
                      cases e315
                      replace hx315_0 := (HB.out.cell (World.block_lt_of_cell? w _ hx315_0)).trans hx315_0
                      replace hx315_1 := (HB.out.cell (World.block_lt_of_cell? w _ hx315_1)).trans hx315_1
                      replace p315 := eq_true p315
                      replace q315 := eq_true q315
                      have p316 : 0 ≤ (x8_1 : Int) := of_decide_eq_true (by first | (with_reducible assumption) | assumption)
                      have q316 : x8_1 < (l1.length : Int) := of_decide_eq_true (by first | (with_reducible assumption) | assumption)
                      obtain ⟨ad316, e316, hx316_0, hx316_1⟩ := at_T48 HR1.out x8_1 p316 q316
                      obtain rfl : ad315 = ad316 := (by injection e316)
                      replace hx316_0 := (HB.out.cell (World.block_lt_of_cell? w _ hx316_0)).trans hx316_0
                      replace hx316_1 := (HB.out.cell (World.block_lt_of_cell? w _ hx316_1)).trans hx316_1
                      replace p316 := eq_true p316
                      replace q316 := eq_true q316
                      have hnb40 := NB314_312.out
                      have hnc40 := NB312_314.out
                      have hnb41 := NB314_313.out
                      have hnc41 := NB313_314.out
                      have hcz42_0 : wr.cell? ⟨gb314, 0, none⟩ = some (.int .i64 a0_0) := (blk_cell BK314.out 0).trans rfl
                      have hcz42_1 : wr.cell? ⟨gb314, 1, none⟩ = some (.int .i64 a0_1) := (blk_cell BK314.out 1).trans rfl
                      have hcz42_2 : wr.cell? ⟨gb314, 2, none⟩ = some (.int .i64 a0_2) := (blk_cell BK314.out 2).trans rfl
                      have hcz42_3 : wr.cell? ⟨gb314, 3, none⟩ = some (.int .i64 a0_3) := (blk_cell BK314.out 3).trans rfl
                      have hcz42_4 : wr.cell? ⟨gb314, 4, none⟩ = some (.int .i64 a0_4) := (blk_cell BK314.out 4).trans rfl
                      have hfz42_0 := blk_frozen BK314.out 0
                      have hfz42_1 := blk_frozen BK314.out 1
                      have hfz42_2 := blk_frozen BK314.out 2
                      have hfz42_3 := blk_frozen BK314.out 3
                      have hfz42_4 := blk_frozen BK314.out 4
                      have hnb43 := NB313_312.out
                      have hnc43 := NB312_313.out
                      have hcz44_0 : wr.cell? ⟨gb313, 0, none⟩ = some (.int .i64 x314000_1) := (blk_cell BK313.out 0).trans rfl
                      have hcz44_1 : wr.cell? ⟨gb313, 1, none⟩ = some (.int .i64 x314001_1) := (blk_cell BK313.out 1).trans rfl
                      have hcz44_2 : wr.cell? ⟨gb313, 2, none⟩ = some (.int .i64 x314002_1) := (blk_cell BK313.out 2).trans rfl
                      have hcz44_3 : wr.cell? ⟨gb313, 3, none⟩ = some (.int .i64 x314003_1) := (blk_cell BK313.out 3).trans rfl
                      have hcz44_4 : wr.cell? ⟨gb313, 4, none⟩ = some (.int .i64 x314004_1) := (blk_cell BK313.out 4).trans rfl
                      have hfz44_0 := blk_frozen BK313.out 0
                      have hfz44_1 := blk_frozen BK313.out 1
                      have hfz44_2 := blk_frozen BK313.out 2
                      have hfz44_3 := blk_frozen BK313.out 3
                      have hfz44_4 := blk_frozen BK313.out 4
                      go_wp2
                      refine bodyPost_ret (results_ctt rfl _ _ gb313 42 #[.int .i64 a0_0, .int .i64 a0_1, .int .i64 a0_2, .int .i64 a0_3, .int .i64 a0_4] (0, 0) _ rfl (by (with_reducible repeat (first | refine blk_drewN ?_ _ | refine blk_drew ?_ | refine blk_alloc ?_ _)); refine blk_put (cs := #[.int .i64 a0_0, .int .i64 a0_1, .int .i64 a0_2, .int .i64 a0_3, .int .i64 x314004_1]) ?_ 4 _ rfl; (with_reducible repeat (first | refine blk_drewN ?_ _ | refine blk_drew ?_ | refine blk_alloc ?_ _)); refine blk_put (cs := #[.int .i64 a0_0, .int .i64 a0_1, .int .i64 a0_2, .int .i64 x314003_1, .int .i64 x314004_1]) ?_ 3 _ rfl; (with_reducible repeat (first | refine blk_drewN ?_ _ | refine blk_drew ?_ | refine blk_alloc ?_ _)); refine blk_put (cs := #[.int .i64 a0_0, .int .i64 a0_1, .int .i64 x314002_1, .int .i64 x314003_1, .int .i64 x314004_1]) ?_ 2 _ rfl; (with_reducible repeat (first | refine blk_drewN ?_ _ | refine blk_drew ?_ | refine blk_alloc ?_ _)); refine blk_put (cs := #[.int .i64 a0_0, .int .i64 x314001_1, .int .i64 x314002_1, .int .i64 x314003_1, .int .i64 x314004_1]) ?_ 1 _ rfl; (with_reducible repeat (first | refine blk_drewN ?_ _ | refine blk_drew ?_ | refine blk_alloc ?_ _)); refine blk_put (cs := #[.int .i64 x314000_1, .int .i64 x314001_1, .int .i64 x314002_1, .int .i64 x314003_1, .int .i64 x314004_1]) ?_ 0 _ rfl; (with_reducible repeat (first | refine blk_drewN ?_ _ | refine blk_drew ?_ | refine blk_alloc ?_ _)); exact BK313.out) Try.underlying42 rfl (by kernel_rfl)) rfl ?_
                      exact ⟨by first | rfl | (simp [errW_none, errW_some] <;> rfl) | (simp [*, errW_none, errW_some] <;> rfl), by repeat (first | (with_reducible first | exact HB.out | apply below_alloc | apply pw_below_drewN | apply below_drew1 | refine below_set ?_ GE312.out | refine below_set ?_ GE313.out | refine below_set ?_ GE314.out) | exact HB.out)⟩
                    · rw [if_neg c39] at H
                      have c39b0 : decide (16777215 < ((rd_T48 l1 x8_1).f1)) = false := decide_eq_false c39
                      clear c39
                      obtain ⟨ji45, hji45⟩ : ∃ j_ : Int, (mn ((rd_T48 l1 x8_1).f1) 512) = j_ := ⟨_, rfl⟩
                      replace H : (bywashref1_Apply.l0 k1 l1 (wrap64 (x8_1 + 1)) x313000_1 x313001_1 x313002_1 ji45 x313004_1 a0_0 a0_1 a0_2 a0_3 a0_4) = some (r1, r2, r3, r4, r5, r6, r7) := by first | (rw [hji45] at H; exact H) | (simp only [hji45] at H ⊢; exact H)
                      have hji45_ : (if 512 < ((rd_T48 l1 x8_1).f1) then 512 else ((rd_T48 l1 x8_1).f1)) = ji45 := hji45
                      have H' := Aside0.mk H
                      clear H
                      have p315 : 0 ≤ (x8_1 : Int) := of_decide_eq_true (by first | (with_reducible assumption) | assumption)
                      have q315 : x8_1 < (l1.length : Int) := of_decide_eq_true (by first | (with_reducible assumption) | assumption)
                      obtain ⟨ad315, e315, hx315_0, hx315_1⟩ := at_T48 HR1.out x8_1 p315 q315
                      cases e315
                      replace hx315_0 := (HB.out.cell (World.block_lt_of_cell? w _ hx315_0)).trans hx315_0
                      replace hx315_1 := (HB.out.cell (World.block_lt_of_cell? w _ hx315_1)).trans hx315_1
                      replace p315 := eq_true p315
                      replace q315 := eq_true q315
                      have p316 : 0 ≤ (x8_1 : Int) := of_decide_eq_true (by first | (with_reducible assumption) | assumption)
                      have q316 : x8_1 < (l1.length : Int) := of_decide_eq_true (by first | (with_reducible assumption) | assumption)
                      obtain ⟨ad316, e316, hx316_0, hx316_1⟩ := at_T48 HR1.out x8_1 p316 q316
                      obtain rfl : ad315 = ad316 := (by injection e316)
                      replace hx316_0 := (HB.out.cell (World.block_lt_of_cell? w _ hx316_0)).trans hx316_0
                      replace hx316_1 := (HB.out.cell (World.block_lt_of_cell? w _ hx316_1)).trans hx316_1
                      replace p316 := eq_true p316
                      replace q316 := eq_true q316
                      have hnb46 := NB312_313.out
                      have hnc46 := NB313_312.out
                      have hnb47 := NB312_314.out
                      have hnc47 := NB314_312.out
                      have hcz48_0 : wr.cell? ⟨gb312, 0, none⟩ = some (.int .i64 x313000_1) := (blk_cell BK312.out 0).trans rfl
                      have hcz48_1 : wr.cell? ⟨gb312, 1, none⟩ = some (.int .i64 x313001_1) := (blk_cell BK312.out 1).trans rfl
                      have hcz48_2 : wr.cell? ⟨gb312, 2, none⟩ = some (.int .i64 x313002_1) := (blk_cell BK312.out 2).trans rfl
                      have hcz48_3 : wr.cell? ⟨gb312, 3, none⟩ = some (.int .i64 x313003_1) := (blk_cell BK312.out 3).trans rfl
                      have hcz48_4 : wr.cell? ⟨gb312, 4, none⟩ = some (.int .i64 x313004_1) := (blk_cell BK312.out 4).trans rfl
                      have hfz48_0 := blk_frozen BK312.out 0
                      have hfz48_1 := blk_frozen BK312.out 1
                      have hfz48_2 := blk_frozen BK312.out 2
                      have hfz48_3 := blk_frozen BK312.out 3
                      have hfz48_4 := blk_frozen BK312.out 4
                      go_wp2
                      go_roundg k1
                      case measure => have := HK1.out; omega
                      case rel => exact ⟨(wrap64 (x8_1 + 1)), (x313000_1), (x313001_1), (x313002_1), (ji45), (x313004_1), (x314000_1), (x314001_1), (x314002_1), (x314003_1), (x314004_1), (by first | rfl | (simp; done) | (simp [*]; done)), H', ⟨by have := HK1.out; omega⟩, ⟨by (with_reducible repeat (first | refine blk_drewN ?_ _ | refine blk_drew ?_ | refine blk_alloc ?_ _)); refine blk_put (cs := #[.int .i64 x313000_1, .int .i64 x313001_1, .int .i64 x313002_1, .int .i64 x313003_1, .int .i64 x313004_1]) ?_ 3 _ rfl; (with_reducible repeat (first | refine blk_drewN ?_ _ | refine blk_drew ?_ | refine blk_alloc ?_ _)); exact BK312.out⟩, ⟨by (with_reducible repeat (first | refine blk_drewN ?_ _ | refine blk_drew ?_ | refine blk_alloc ?_ _)); refine blk_far ?_ NB313_312.out _; (with_reducible repeat (first | refine blk_drewN ?_ _ | refine blk_drew ?_ | refine blk_alloc ?_ _)); exact BK313.out⟩, ⟨by (with_reducible repeat (first | refine blk_drewN ?_ _ | refine blk_drew ?_ | refine blk_alloc ?_ _)); refine blk_far ?_ NB314_312.out _; (with_reducible repeat (first | refine blk_drewN ?_ _ | refine blk_drew ?_ | refine blk_alloc ?_ _)); exact BK314.out⟩, ⟨by repeat (first | (with_reducible first | exact HB.out | apply below_alloc | apply pw_below_drewN | apply below_drew1 | refine below_set ?_ GE312.out | refine below_set ?_ GE313.out | refine below_set ?_ GE314.out) | exact HB.out)⟩⟩
                · rw [if_neg c32] at H
                  have c32b0 : (((rd_T48 l1 x8_1).f0) == 5) = false := beq_eq_false_iff_ne.mpr c32
                  have c32b1 : (((rd_T48 l1 x8_1).f0) != 5) = true := bne_iff_ne.mpr c32
                  by_cases c49 : ((rd_T48 l1 x8_1).f0) = 6
                  · rw [if_pos c49] at H
                    have c49b0 : (((rd_T48 l1 x8_1).f0) == 6) = true := beq_iff_eq.mpr c49
                    have c49b1 : (((rd_T48 l1 x8_1).f0) != 6) = false := bne_eq_false_iff_eq.mpr c49
                    clear c49
                    have H' := Aside0.mk H
                    clear H
                    have p315 : 0 ≤ (x8_1 : Int) := of_decide_eq_true (by first | (with_reducible assumption) | assumption)
                    have q315 : x8_1 < (l1.length : Int) := of_decide_eq_true (by first | (with_reducible assumption) | assumption)
                    obtain ⟨ad315, e315, hx315_0, hx315_1⟩ := at_T48 HR1.out x8_1 p315 q315
                    cases e315
                    replace hx315_0 := (HB.out.cell (World.block_lt_of_cell? w _ hx315_0)).trans hx315_0
                    replace hx315_1 := (HB.out.cell (World.block_lt_of_cell? w _ hx315_1)).trans hx315_1
                    replace p315 := eq_true p315
                    replace q315 := eq_true q315
                    have p316 : 0 ≤ (x8_1 : Int) := of_decide_eq_true (by first | (with_reducible assumption) | assumption)
                    have q316 : x8_1 < (l1.length : Int) := of_decide_eq_true (by first | (with_reducible assumption) | assumption)
                    obtain ⟨ad316, e316, hx316_0, hx316_1⟩ := at_T48 HR1.out x8_1 p316 q316
                    obtain rfl : ad315 = ad316 := (by injection e316)
                    replace hx316_0 := (HB.out.cell (World.block_lt_of_cell? w _ hx316_0)).trans hx316_0
                    replace hx316_1 := (HB.out.cell (World.block_lt_of_cell? w _ hx316_1)).trans hx316_1
                    replace p316 := eq_true p316
                    replace q316 := eq_true q316
                    have hnb50 := NB312_313.out
                    have hnc50 := NB313_312.out
                    have hnb51 := NB312_314.out
                    have hnc51 := NB314_312.out
                    have hcz52_0 : wr.cell? ⟨gb312, 0, none⟩ = some (.int .i64 x313000_1) := (blk_cell BK312.out 0).trans rfl
                    have hcz52_1 : wr.cell? ⟨gb312, 1, none⟩ = some (.int .i64 x313001_1) := (blk_cell BK312.out 1).trans rfl
                    have hcz52_2 : wr.cell? ⟨gb312, 2, none⟩ = some (.int .i64 x313002_1) := (blk_cell BK312.out 2).trans rfl
                    have hcz52_3 : wr.cell? ⟨gb312, 3, none⟩ = some (.int .i64 x313003_1) := (blk_cell BK312.out 3).trans rfl
                    have hcz52_4 : wr.cell? ⟨gb312, 4, none⟩ = some (.int .i64 x313004_1) := (blk_cell BK312.out 4).trans rfl
                    have hfz52_0 := blk_frozen BK312.out 0
                    have hfz52_1 := blk_frozen BK312.out 1
                    have hfz52_2 := blk_frozen BK312.out 2
                    have hfz52_3 := blk_frozen BK312.out 3
                    have hfz52_4 := blk_frozen BK312.out 4
                    go_wp2
                    go_roundg k1
                    case measure => have := HK1.out; omega
                    case rel => exact ⟨(wrap64 (x8_1 + 1)), (x313000_1), (x313001_1), (x313002_1), (x313003_1), ((rd_T48 l1 x8_1).f1), (x314000_1), (x314001_1), (x314002_1), (x314003_1), (x314004_1), (by first | rfl | (simp; done) | (simp [*]; done)), H', ⟨by have := HK1.out; omega⟩, ⟨by (with_reducible repeat (first | refine blk_drewN ?_ _ | refine blk_drew ?_ | refine blk_alloc ?_ _)); refine blk_put (cs := #[.int .i64 x313000_1, .int .i64 x313001_1, .int .i64 x313002_1, .int .i64 x313003_1, .int .i64 x313004_1]) ?_ 4 _ rfl; (with_reducible repeat (first | refine blk_drewN ?_ _ | refine blk_drew ?_ | refine blk_alloc ?_ _)); exact BK312.out⟩, ⟨by (with_reducible repeat (first | refine blk_drewN ?_ _ | refine blk_drew ?_ | refine blk_alloc ?_ _)); refine blk_far ?_ NB313_312.out _; (with_reducible repeat (first | refine blk_drewN ?_ _ | refine blk_drew ?_ | refine blk_alloc ?_ _)); exact BK313.out⟩, ⟨by (with_reducible repeat (first | refine blk_drewN ?_ _ | refine blk_drew ?_ | refine blk_alloc ?_ _)); refine blk_far ?_ NB314_312.out _; (with_reducible repeat (first | refine blk_drewN ?_ _ | refine blk_drew ?_ | refine blk_alloc ?_ _)); exact BK314.out⟩, ⟨by repeat (first | (with_reducible first | exact HB.out | apply below_alloc | apply pw_below_drewN | apply below_drew1 | refine below_set ?_ GE312.out | refine below_set ?_ GE313.out | refine below_set ?_ GE314.out) | exact HB.out)⟩⟩
                  · rw [if_neg c49] at H
                    have c49b0 : (((rd_T48 l1 x8_1).f0) == 6) = false := beq_eq_false_iff_ne.mpr c49
                    have c49b1 : (((rd_T48 l1 x8_1).f0) != 6) = true := bne_iff_ne.mpr c49
                    by_cases c53 : ((rd_T48 l1 x8_1).f0) = 2
                    · rw [if_pos c53] at H
                      have c53b0 : (((rd_T48 l1 x8_1).f0) == 2) = true := beq_iff_eq.mpr c53
                      have c53b1 : (((rd_T48 l1 x8_1).f0) != 2) = false := bne_eq_false_iff_eq.mpr c53
                      clear c53
                      by_cases c54 : ((rd_T48 l1 x8_1).f1) = 0
                      · rw [if_pos c54] at H
                        have c54b0 : (((rd_T48 l1 x8_1).f1) == 0) = true := beq_iff_eq.mpr c54
                        have c54b1 : (((rd_T48 l1 x8_1).f1) != 0) = false := bne_eq_false_iff_eq.mpr c54
                        clear c54
                        have H' := Aside0.mk H
                        clear H
                        have p315 : 0 ≤ (x8_1 : Int) := of_decide_eq_true (by first | (with_reducible assumption) | assumption)
                        have q315 : x8_1 < (l1.length : Int) := of_decide_eq_true (by first | (with_reducible assumption) | assumption)
                        obtain ⟨ad315, e315, hx315_0, hx315_1⟩ := at_T48 HR1.out x8_1 p315 q315
                        cases e315
                        replace hx315_0 := (HB.out.cell (World.block_lt_of_cell? w _ hx315_0)).trans hx315_0
                        replace hx315_1 := (HB.out.cell (World.block_lt_of_cell? w _ hx315_1)).trans hx315_1
                        replace p315 := eq_true p315
                        replace q315 := eq_true q315
                        have p316 : 0 ≤ (x8_1 : Int) := of_decide_eq_true (by first | (with_reducible assumption) | assumption)
                        have q316 : x8_1 < (l1.length : Int) := of_decide_eq_true (by first | (with_reducible assumption) | assumption)
                        obtain ⟨ad316, e316, hx316_0, hx316_1⟩ := at_T48 HR1.out x8_1 p316 q316
                        obtain rfl : ad315 = ad316 := (by injection e316)
                        replace hx316_0 := (HB.out.cell (World.block_lt_of_cell? w _ hx316_0)).trans hx316_0
                        replace hx316_1 := (HB.out.cell (World.block_lt_of_cell? w _ hx316_1)).trans hx316_1
                        replace p316 := eq_true p316
                        replace q316 := eq_true q316
                        go_wp2
                        go_roundg k1
                        case measure => have := HK1.out; omega
                        case rel => exact ⟨(wrap64 (x8_1 + 1)), (x313000_1), (x313001_1), (x313002_1), (x313003_1), (x313004_1), (x314000_1), (x314001_1), (x314002_1), (x314003_1), (x314004_1), (by first | rfl | (simp; done) | (simp [*]; done)), H', ⟨by have := HK1.out; omega⟩, ⟨by (with_reducible repeat (first | refine blk_drewN ?_ _ | refine blk_drew ?_ | refine blk_alloc ?_ _)); exact BK312.out⟩, ⟨by (with_reducible repeat (first | refine blk_drewN ?_ _ | refine blk_drew ?_ | refine blk_alloc ?_ _)); exact BK313.out⟩, ⟨by (with_reducible repeat (first | refine blk_drewN ?_ _ | refine blk_drew ?_ | refine blk_alloc ?_ _)); exact BK314.out⟩, ⟨by repeat (first | (with_reducible first | exact HB.out | apply below_alloc | apply pw_below_drewN | apply below_drew1 | refine below_set ?_ GE312.out | refine below_set ?_ GE313.out | refine below_set ?_ GE314.out) | exact HB.out)⟩⟩
                      · rw [if_neg c54] at H
                        have c54b0 : (((rd_T48 l1 x8_1).f1) == 0) = false := beq_eq_false_iff_ne.mpr c54
                        have c54b1 : (((rd_T48 l1 x8_1).f1) != 0) = true := bne_iff_ne.mpr c54
                        simp only [Option.some.injEq, Prod.mk.injEq] at H
                        obtain ⟨rfl, rfl, rfl, rfl, rfl, rfl, rfl⟩ := H
                        have p315 : 0 ≤ (x8_1 : Int) := of_decide_eq_true (by first | (with_reducible assumption) | assumption)
                        have q315 : x8_1 < (l1.length : Int) := of_decide_eq_true (by first | (with_reducible assumption) | assumption)
                        obtain ⟨ad315, e315, hx315_0, hx315_1⟩ := at_T48 HR1.out x8_1 p315 q315
                        cases e315
                        replace hx315_0 := (HB.out.cell (World.block_lt_of_cell? w _ hx315_0)).trans hx315_0
                        replace hx315_1 := (HB.out.cell (World.block_lt_of_cell? w _ hx315_1)).trans hx315_1
                        replace p315 := eq_true p315
                        replace q315 := eq_true q315
                        have p316 : 0 ≤ (x8_1 : Int) := of_decide_eq_true (by first | (with_reducible assumption) | assumption)
                        have q316 : x8_1 < (l1.length : Int) := of_decide_eq_true (by first | (with_reducible assumption) | assumption)
                        obtain ⟨ad316, e316, hx316_0, hx316_1⟩ := at_T48 HR1.out x8_1 p316 q316
                        obtain rfl : ad315 = ad316 := (by injection e316)
                        replace hx316_0 := (HB.out.cell (World.block_lt_of_cell? w _ hx316_0)).trans hx316_0
                        replace hx316_1 := (HB.out.cell (World.block_lt_of_cell? w _ hx316_1)).trans hx316_1
                        replace p316 := eq_true p316
                        replace q316 := eq_true q316
                        have hnb55 := NB314_312.out
                        have hnc55 := NB312_314.out
                        have hnb56 := NB314_313.out
                        have hnc56 := NB313_314.out
                        have hcz57_0 : wr.cell? ⟨gb314, 0, none⟩ = some (.int .i64 a0_0) := (blk_cell BK314.out 0).trans rfl
                        have hcz57_1 : wr.cell? ⟨gb314, 1, none⟩ = some (.int .i64 a0_1) := (blk_cell BK314.out 1).trans rfl
                        have hcz57_2 : wr.cell? ⟨gb314, 2, none⟩ = some (.int .i64 a0_2) := (blk_cell BK314.out 2).trans rfl
                        have hcz57_3 : wr.cell? ⟨gb314, 3, none⟩ = some (.int .i64 a0_3) := (blk_cell BK314.out 3).trans rfl
                        have hcz57_4 : wr.cell? ⟨gb314, 4, none⟩ = some (.int .i64 a0_4) := (blk_cell BK314.out 4).trans rfl
                        have hfz57_0 := blk_frozen BK314.out 0
                        have hfz57_1 := blk_frozen BK314.out 1
                        have hfz57_2 := blk_frozen BK314.out 2
                        have hfz57_3 := blk_frozen BK314.out 3
                        have hfz57_4 := blk_frozen BK314.out 4
                        have hnb58 := NB313_312.out
                        have hnc58 := NB312_313.out
                        have hcz59_0 : wr.cell? ⟨gb313, 0, none⟩ = some (.int .i64 x314000_1) := (blk_cell BK313.out 0).trans rfl
                        have hcz59_1 : wr.cell? ⟨gb313, 1, none⟩ = some (.int .i64 x314001_1) := (blk_cell BK313.out 1).trans rfl
                        have hcz59_2 : wr.cell? ⟨gb313, 2, none⟩ = some (.int .i64 x314002_1) := (blk_cell BK313.out 2).trans rfl
                        have hcz59_3 : wr.cell? ⟨gb313, 3, none⟩ = some (.int .i64 x314003_1) := (blk_cell BK313.out 3).trans rfl
                        have hcz59_4 : wr.cell? ⟨gb313, 4, none⟩ = some (.int .i64 x314004_1) := (blk_cell BK313.out 4).trans rfl
                        have hfz59_0 := blk_frozen BK313.out 0
                        have hfz59_1 := blk_frozen BK313.out 1
                        have hfz59_2 := blk_frozen BK313.out 2
                        have hfz59_3 := blk_frozen BK313.out 3
                        have hfz59_4 := blk_frozen BK313.out 4
                        go_wp2
                        refine bodyPost_ret (results_ctt rfl _ _ gb313 42 #[.int .i64 a0_0, .int .i64 a0_1, .int .i64 a0_2, .int .i64 a0_3, .int .i64 a0_4] (0, 0) _ rfl (by (with_reducible repeat (first | refine blk_drewN ?_ _ | refine blk_drew ?_ | refine blk_alloc ?_ _)); refine blk_put (cs := #[.int .i64 a0_0, .int .i64 a0_1, .int .i64 a0_2, .int .i64 a0_3, .int .i64 x314004_1]) ?_ 4 _ rfl; (with_reducible repeat (first | refine blk_drewN ?_ _ | refine blk_drew ?_ | refine blk_alloc ?_ _)); refine blk_put (cs := #[.int .i64 a0_0, .int .i64 a0_1, .int .i64 a0_2, .int .i64 x314003_1, .int .i64 x314004_1]) ?_ 3 _ rfl; (with_reducible repeat (first | refine blk_drewN ?_ _ | refine blk_drew ?_ | refine blk_alloc ?_ _)); refine blk_put (cs := #[.int .i64 a0_0, .int .i64 a0_1, .int .i64 x314002_1, .int .i64 x314003_1, .int .i64 x314004_1]) ?_ 2 _ rfl; (with_reducible repeat (first | refine blk_drewN ?_ _ | refine blk_drew ?_ | refine blk_alloc ?_ _)); refine blk_put (cs := #[.int .i64 a0_0, .int .i64 x314001_1, .int .i64 x314002_1, .int .i64 x314003_1, .int .i64 x314004_1]) ?_ 1 _ rfl; (with_reducible repeat (first | refine blk_drewN ?_ _ | refine blk_drew ?_ | refine blk_alloc ?_ _)); refine blk_put (cs := #[.int .i64 x314000_1, .int .i64 x314001_1, .int .i64 x314002_1, .int .i64 x314003_1, .int .i64 x314004_1]) ?_ 0 _ rfl; (with_reducible repeat (first | refine blk_drewN ?_ _ | refine blk_drew ?_ | refine blk_alloc ?_ _)); exact BK313.out) Try.underlying42 rfl (by kernel_rfl)) rfl ?_
                        exact ⟨by first | rfl | (simp [errW_none, errW_some] <;> rfl) | (simp [*, errW_none, errW_some] <;> rfl), by repeat (first | (with_reducible first | exact HB.out | apply below_alloc | apply pw_below_drewN | apply below_drew1 | refine below_set ?_ GE312.out | refine below_set ?_ GE313.out | refine below_set ?_ GE314.out) | exact HB.out)⟩
                    · rw [if_neg c53] at H
                      have c53b0 : (((rd_T48 l1 x8_1).f0) == 2) = false := beq_eq_false_iff_ne.mpr c53
                      have c53b1 : (((rd_T48 l1 x8_1).f0) != 2) = true := bne_iff_ne.mpr c53
                      have H' := Aside0.mk H
                      clear H
                      have p315 : 0 ≤ (x8_1 : Int) := of_decide_eq_true (by first | (with_reducible assumption) | assumption)
                      have q315 : x8_1 < (l1.length : Int) := of_decide_eq_true (by first | (with_reducible assumption) | assumption)
                      obtain ⟨ad315, e315, hx315_0, hx315_1⟩ := at_T48 HR1.out x8_1 p315 q315
                      cases e315
                      replace hx315_0 := (HB.out.cell (World.block_lt_of_cell? w _ hx315_0)).trans hx315_0
                      replace hx315_1 := (HB.out.cell (World.block_lt_of_cell? w _ hx315_1)).trans hx315_1
                      replace p315 := eq_true p315
                      replace q315 := eq_true q315
                      have p316 : 0 ≤ (x8_1 : Int) := of_decide_eq_true (by first | (with_reducible assumption) | assumption)
                      have q316 : x8_1 < (l1.length : Int) := of_decide_eq_true (by first | (with_reducible assumption) | assumption)
                      obtain ⟨ad316, e316, hx316_0, hx316_1⟩ := at_T48 HR1.out x8_1 p316 q316
                      obtain rfl : ad315 = ad316 := (by injection e316)
                      replace hx316_0 := (HB.out.cell (World.block_lt_of_cell? w _ hx316_0)).trans hx316_0
                      replace hx316_1 := (HB.out.cell (World.block_lt_of_cell? w _ hx316_1)).trans hx316_1
                      replace p316 := eq_true p316
                      replace q316 := eq_true q316
                      go_wp2
                      go_roundg k1
                      case measure => have := HK1.out; omega
                      case rel => exact ⟨(wrap64 (x8_1 + 1)), (x313000_1), (x313001_1), (x313002_1), (x313003_1), (x313004_1), (x314000_1), (x314001_1), (x314002_1), (x314003_1), (x314004_1), (by first | rfl | (simp; done) | (simp [*]; done)), H', ⟨by have := HK1.out; omega⟩, ⟨by (with_reducible repeat (first | refine blk_drewN ?_ _ | refine blk_drew ?_ | refine blk_alloc ?_ _)); exact BK312.out⟩, ⟨by (with_reducible repeat (first | refine blk_drewN ?_ _ | refine blk_drew ?_ | refine blk_alloc ?_ _)); exact BK313.out⟩, ⟨by (with_reducible repeat (first | refine blk_drewN ?_ _ | refine blk_drew ?_ | refine blk_alloc ?_ _)); exact BK314.out⟩, ⟨by repeat (first | (with_reducible first | exact HB.out | apply below_alloc | apply pw_below_drewN | apply below_drew1 | refine below_set ?_ GE312.out | refine below_set ?_ GE313.out | refine below_set ?_ GE314.out) | exact HB.out)⟩⟩
        · rw [if_neg c12] at H
          exact absurd H (by simp)
      · rw [if_neg c11] at H
        have c11b0 : decide (x8_1 < (l1.length : Int)) = false := decide_eq_false c11
        clear c11
        simp only [Option.some.injEq, Prod.mk.injEq] at H
        obtain ⟨rfl, rfl, rfl, rfl, rfl, rfl, rfl⟩ := H
        have hnb60 := NB312_313.out
        have hnc60 := NB313_312.out
        have hnb61 := NB312_314.out
        have hnc61 := NB314_312.out
        have hcz62_0 : wr.cell? ⟨gb312, 0, none⟩ = some (.int .i64 x313000_1) := (blk_cell BK312.out 0).trans rfl
        have hcz62_1 : wr.cell? ⟨gb312, 1, none⟩ = some (.int .i64 x313001_1) := (blk_cell BK312.out 1).trans rfl
        have hcz62_2 : wr.cell? ⟨gb312, 2, none⟩ = some (.int .i64 x313002_1) := (blk_cell BK312.out 2).trans rfl
        have hcz62_3 : wr.cell? ⟨gb312, 3, none⟩ = some (.int .i64 x313003_1) := (blk_cell BK312.out 3).trans rfl
        have hcz62_4 : wr.cell? ⟨gb312, 4, none⟩ = some (.int .i64 x313004_1) := (blk_cell BK312.out 4).trans rfl
        have hfz62_0 := blk_frozen BK312.out 0
        have hfz62_1 := blk_frozen BK312.out 1
        have hfz62_2 := blk_frozen BK312.out 2
        have hfz62_3 := blk_frozen BK312.out 3
        have hfz62_4 := blk_frozen BK312.out 4
        have hnb63 := NB313_314.out
        have hnc63 := NB314_313.out
        have hcz64_0 : wr.cell? ⟨gb313, 0, none⟩ = some (.int .i64 x314000_1) := (blk_cell BK313.out 0).trans rfl
        have hcz64_1 : wr.cell? ⟨gb313, 1, none⟩ = some (.int .i64 x314001_1) := (blk_cell BK313.out 1).trans rfl
        have hcz64_2 : wr.cell? ⟨gb313, 2, none⟩ = some (.int .i64 x314002_1) := (blk_cell BK313.out 2).trans rfl
        have hcz64_3 : wr.cell? ⟨gb313, 3, none⟩ = some (.int .i64 x314003_1) := (blk_cell BK313.out 3).trans rfl
        have hcz64_4 : wr.cell? ⟨gb313, 4, none⟩ = some (.int .i64 x314004_1) := (blk_cell BK313.out 4).trans rfl
        have hfz64_0 := blk_frozen BK313.out 0
        have hfz64_1 := blk_frozen BK313.out 1
        have hfz64_2 := blk_frozen BK313.out 2
        have hfz64_3 := blk_frozen BK313.out 3
        have hfz64_4 := blk_frozen BK313.out 4
        go_wp2
        refine bodyPost_ret (results_ctt rfl _ _ gb313 42 #[.int .i64 x313000_1, .int .i64 x313001_1, .int .i64 x313002_1, .int .i64 x313003_1, .int .i64 x313004_1] (0, 0) _ rfl (by (with_reducible repeat (first | refine blk_drewN ?_ _ | refine blk_drew ?_ | refine blk_alloc ?_ _)); refine blk_put (cs := #[.int .i64 x313000_1, .int .i64 x313001_1, .int .i64 x313002_1, .int .i64 x313003_1, .int .i64 x314004_1]) ?_ 4 _ rfl; (with_reducible repeat (first | refine blk_drewN ?_ _ | refine blk_drew ?_ | refine blk_alloc ?_ _)); refine blk_put (cs := #[.int .i64 x313000_1, .int .i64 x313001_1, .int .i64 x313002_1, .int .i64 x314003_1, .int .i64 x314004_1]) ?_ 3 _ rfl; (with_reducible repeat (first | refine blk_drewN ?_ _ | refine blk_drew ?_ | refine blk_alloc ?_ _)); refine blk_put (cs := #[.int .i64 x313000_1, .int .i64 x313001_1, .int .i64 x314002_1, .int .i64 x314003_1, .int .i64 x314004_1]) ?_ 2 _ rfl; (with_reducible repeat (first | refine blk_drewN ?_ _ | refine blk_drew ?_ | refine blk_alloc ?_ _)); refine blk_put (cs := #[.int .i64 x313000_1, .int .i64 x314001_1, .int .i64 x314002_1, .int .i64 x314003_1, .int .i64 x314004_1]) ?_ 1 _ rfl; (with_reducible repeat (first | refine blk_drewN ?_ _ | refine blk_drew ?_ | refine blk_alloc ?_ _)); refine blk_put (cs := #[.int .i64 x314000_1, .int .i64 x314001_1, .int .i64 x314002_1, .int .i64 x314003_1, .int .i64 x314004_1]) ?_ 0 _ rfl; (with_reducible repeat (first | refine blk_drewN ?_ _ | refine blk_drew ?_ | refine blk_alloc ?_ _)); exact BK313.out) Try.underlying42 rfl (by kernel_rfl)) rfl ?_
        exact ⟨by first | rfl | (simp [errW_none, errW_some] <;> rfl) | (simp [*, errW_none, errW_some] <;> rfl), by repeat (first | (with_reducible first | exact HB.out | apply below_alloc | apply pw_below_drewN | apply below_drew1 | refine below_set ?_ GE312.out | refine below_set ?_ GE313.out | refine below_set ?_ GE314.out) | exact HB.out)⟩

-- NOT PRINTED: function 3 (bywashlaw10_PrefsTells)

end Go.Proofs.Ytfeihaoppahmnaa.PPrefsTells
