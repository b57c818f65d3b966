-- Written by a program of this session (the kit's printer, turned): the functions that the law reaches.
import Derived.Test.YtdonanibfifodaaPBlockPlaysx0
import Derived.Test.YtdonanibfifodaaPBlockPlaysx5
import Derived.Test.YtdonanibfifodaaPBlockPlaysx6
namespace Go.Proofs.Ytdonanibfifodaa.PBlockPlays
open Go.RowKit Go.Proofs.YtdonanibfifodaaW.PrintWords Go.Proofs.YtdonanibfifodaaW.PrintLast Go.Proofs.YtdonanibfifodaaW.PrintMore
attribute [local go_sem] max2_int min2_int max_two min_two max_three min_three max_four min_four   -- for this text's walks alone
set_option linter.unusedVariables false
set_option linter.unusedSimpArgs false

/-! ### bywashref1_Check: function 20 -/
mutual
def bywashref1_Check.j1 : Nat → Bool → Bool → Int → Int → Int → ByteArray → Option (Int × Int)
 | 0, _, _, _, _, _, _ => none
 | k + 1, x5, x6, x186000, x186001, x186002, x186003 => if x5 = true then (some (1, 11)) else (if x6 = true then (some (6, 5)) else ((bywashref1_Strip.f k x186000 x186001 x186002 x186003).bind fun bt187 => (if bt187.2.2 = 5 then (some (6, bt187.2.2)) else (if bt187.2.2 = 11 then (some (1, bt187.2.2)) else (some (0, 0))))))
def bywashref1_Check.j0 : Nat → Int → Bool → Bool → Int → Bool → Int → Int → Int → ByteArray → Option (Int × Int)
 | 0, _, _, _, _, _, _, _, _, _ => none
 | k + 1, x4, x5, x6, x17, x20, x186000, x186001, x186002, x186003 => if x20 = true then (bywashref1_Check.j1 k (x186002 == 0) x6 x186000 x186001 x186002 x186003) else (if x17 = 2 then (bywashref1_Check.j1 k (x186002 == 0) (x4 != 5) x186000 x186001 x186002 x186003) else (if x17 = 3 then (bywashref1_Check.j1 k (x186002 == 0) (x4 != 4) x186000 x186001 x186002 x186003) else (if x17 = 4 then (if (Int.tmod x4 6) = 0 then (if (Go.bits .and .i64 x186001 1) = 0 then (bywashref1_Check.j1 k (x186002 != 0) false x186000 x186001 x186002 x186003) else (bywashref1_Check.j1 k (x186002 != 0) (decide (x4 > 0)) x186000 x186001 x186002 x186003)) else (bywashref1_Check.j1 k (x186002 != 0) true x186000 x186001 x186002 x186003)) else (if x17 = 6 then (bywashref1_Check.j1 k (x186002 != 0) (x4 != 8) x186000 x186001 x186002 x186003) else (if x17 = 7 then (bywashref1_Check.j1 k (x186002 != 0) (decide (x4 < 8)) x186000 x186001 x186002 x186003) else (if x17 = 8 then (bywashref1_Check.j1 k x5 (x4 != 4) x186000 x186001 x186002 x186003) else (bywashref1_Check.j1 k x5 x6 x186000 x186001 x186002 x186003)))))))
end
def bywashref1_Check.f (k : Nat) (a0_0 : Int) (a0_1 : Int) (a0_2 : Int) (a0_3 : ByteArray) : Option (Int × Int) := (bywashref1_FrameRight.f a0_0 a0_1 a0_2 a0_3).bind fun t186 => (if t186 = true then (if a0_0 = 5 then (some (1, 11)) else (if a0_0 = 0 then (bywashref1_Check.j0 k (a0_3.size : Int) false false a0_0 (a0_0 == 0) a0_0 a0_1 a0_2 a0_3) else (if a0_0 = 1 then (bywashref1_Check.j0 k (a0_3.size : Int) false false a0_0 (a0_0 == 1) a0_0 a0_1 a0_2 a0_3) else (bywashref1_Check.j0 k (a0_3.size : Int) false false a0_0 (a0_0 == 9) a0_0 a0_1 a0_2 a0_3)))) else (some (1, 1)))
theorem bywashref1_Check.mono_l : ∀ k, (∀ y0 y1 y2 y3 y4 y5, LeO (bywashref1_Check.j1 k y0 y1 y2 y3 y4 y5) (bywashref1_Check.j1 (k + 1) y0 y1 y2 y3 y4 y5)) ∧ (∀ y0 y1 y2 y3 y4 y5 y6 y7 y8, LeO (bywashref1_Check.j0 k y0 y1 y2 y3 y4 y5 y6 y7 y8) (bywashref1_Check.j0 (k + 1) y0 y1 y2 y3 y4 y5 y6 y7 y8))
 | 0 => ⟨fun _ _ _ _ _ _ r h => by simp [bywashref1_Check.j1] at h, fun _ _ _ _ _ _ _ _ _ r h => by simp [bywashref1_Check.j0] at h⟩
 | k + 1 => by
  obtain ⟨ih0, ih1⟩ := bywashref1_Check.mono_l k
  refine ⟨?_, ?_⟩
  ·intro y0 y1 y2 y3 y4 y5
   unfold bywashref1_Check.j1
   repeat' first
   | (with_reducible exact ih0 _ _ _ _ _ _)
   | (with_reducible exact ih1 _ _ _ _ _ _ _ _ _)
   | (with_reducible exact bywashref1_Strip.mono _ _ _ _ _)
   | (with_reducible exact LeO.refl _)
   | (with_reducible exact LeO.none _)
   | (with_reducible refine LeO.ite ?_ ?_)
   | (with_reducible refine LeO.bind ?_ (fun _ => ?_))
   | exact ih0 _ _ _ _ _ _
   | exact ih1 _ _ _ _ _ _ _ _ _
   | exact bywashref1_Strip.mono _ _ _ _ _
   | exact LeO.none _
   | refine LeO.ite ?_ ?_
   | refine LeO.bind ?_ (fun _ => ?_)
  ·intro y0 y1 y2 y3 y4 y5 y6 y7 y8
   unfold bywashref1_Check.j0
   repeat' first
   | (with_reducible exact ih0 _ _ _ _ _ _)
   | (with_reducible exact ih1 _ _ _ _ _ _ _ _ _)
   | (with_reducible exact bywashref1_Strip.mono _ _ _ _ _)
   | (with_reducible exact LeO.refl _)
   | (with_reducible exact LeO.none _)
   | (with_reducible refine LeO.ite ?_ ?_)
   | (with_reducible refine LeO.bind ?_ (fun _ => ?_))
   | exact ih0 _ _ _ _ _ _
   | exact ih1 _ _ _ _ _ _ _ _ _
   | exact bywashref1_Strip.mono _ _ _ _ _
   | exact LeO.none _
   | refine LeO.ite ?_ ?_
   | refine LeO.bind ?_ (fun _ => ?_)
theorem bywashref1_Check.mono : ∀ a0 a1 a2 a3 k, LeO (bywashref1_Check.f k a0 a1 a2 a3) (bywashref1_Check.f (k + 1) a0 a1 a2 a3) := by
 intro a0 a1 a2 a3 k
 obtain ⟨ih0, ih1⟩ := bywashref1_Check.mono_l k
 unfold bywashref1_Check.f
 repeat' first
   | (with_reducible exact ih0 _ _ _ _ _ _)
   | (with_reducible exact ih1 _ _ _ _ _ _ _ _ _)
   | (with_reducible exact bywashref1_Strip.mono _ _ _ _ _)
   | (with_reducible exact LeO.refl _)
   | (with_reducible exact LeO.none _)
   | (with_reducible refine LeO.ite ?_ ?_)
   | (with_reducible refine LeO.bind ?_ (fun _ => ?_))
   | exact ih0 _ _ _ _ _ _
   | exact ih1 _ _ _ _ _ _ _ _ _
   | exact bywashref1_Strip.mono _ _ _ _ _
   | exact LeO.none _
   | refine LeO.ite ?_ ?_
   | refine LeO.bind ?_ (fun _ => ?_)
set_option maxHeartbeats 8000000 in
set_option maxRecDepth 100000 in
theorem bywashref1_Check.calls (k : Nat) (a0_0 : Int) (a0_1 : Int) (a0_2 : Int) (a0_3 : ByteArray) (r1 : Int) (r2 : Int) (w : World) (h : bywashref1_Check.f k a0_0 a0_1 a0_2 a0_3 = some (r1, r2)) :
  Calls Try.prog 20 #[.agg #[.int .i64 a0_0, .int .i64 a0_1, .int .i64 a0_2, .string a0_3]] w fun e w' => e = .returned (.tuple #[.int .i64 r1, .int .i64 r2]) ∧ Below w.heap.size w w' := by
 have hu39 := Try.underlying39
 have HB := Aside0.mk (Below.refl w.heap.size w)
 have H : ((bywashref1_FrameRight.f a0_0 a0_1 a0_2 a0_3).bind fun t186 => (if t186 = true then (if a0_0 = 5 then (some (1, 11)) else (if a0_0 = 0 then (bywashref1_Check.j0 k (a0_3.size : Int) false false a0_0 (a0_0 == 0) a0_0 a0_1 a0_2 a0_3) else (if a0_0 = 1 then (bywashref1_Check.j0 k (a0_3.size : Int) false false a0_0 (a0_0 == 1) a0_0 a0_1 a0_2 a0_3) else (bywashref1_Check.j0 k (a0_3.size : Int) false false a0_0 (a0_0 == 9) a0_0 a0_1 a0_2 a0_3)))) else (some (1, 1)))) = some (r1, r2) := h
 clear h
 replace H := Option.bind_eq_some_iff.mp H
 obtain ⟨t186, A20, H⟩ := H
 replace H : (if t186 = true then (if a0_0 = 5 then (some (1, 11)) else (if a0_0 = 0 then (bywashref1_Check.j0 k (a0_3.size : Int) false false a0_0 (a0_0 == 0) a0_0 a0_1 a0_2 a0_3) else (if a0_0 = 1 then (bywashref1_Check.j0 k (a0_3.size : Int) false false a0_0 (a0_0 == 1) a0_0 a0_1 a0_2 a0_3) else (bywashref1_Check.j0 k (a0_3.size : Int) false false a0_0 (a0_0 == 9) a0_0 a0_1 a0_2 a0_3)))) else (some (1, 1))) = some (r1, r2) := H
 have A2 := Aside0.mk A20
 clear A20
 by_cases c3 : t186 = true
 ·subst c3
  have H1 : (if a0_0 = 5 then (some (1, 11)) else (if a0_0 = 0 then (bywashref1_Check.j0 k (a0_3.size : Int) false false a0_0 (a0_0 == 0) a0_0 a0_1 a0_2 a0_3) else (if a0_0 = 1 then (bywashref1_Check.j0 k (a0_3.size : Int) false false a0_0 (a0_0 == 1) a0_0 a0_1 a0_2 a0_3) else (bywashref1_Check.j0 k (a0_3.size : Int) false false a0_0 (a0_0 == 9) a0_0 a0_1 a0_2 a0_3)))) = some (r1, r2) := by rw [if_pos rfl] at H; exact H
  clear H
  have H := H1
  clear H1
  have HC4 := Aside0.mk H
  clear H
  go_enter Try.func20, Try.ntmps20
  go_upto_block 0 with (first | ((with_reducible refine gate_dst (N := 1) rfl ?_); refine box_event ?hg (N := 1) ?hd (cs := #[.int .i64 a0_0, .int .i64 a0_1, .int .i64 a0_2, .string a0_3]) (t := 39) ?hr ?_; (case hd => rfl); (case hg => rfl); (case hr => first | (go_simp; done) | (go_simp; rfl)); intro gb185 hg w5 hbox hb; have n0_ := Aside0.mk (below_step (by repeat (first | (with_reducible first | exact HB.out | apply below_alloc | apply pw_below_drewN | apply below_drew1) | exact HB.out)) hb); have n1_ := Aside0.mk (hbox); have n2_ := Aside0.mk ((by rw [hg]; exact (below_size (by repeat (first | (with_reducible first | exact HB.out | apply below_alloc | apply pw_below_drewN | apply below_drew1) | exact HB.out))) : w.heap.size ≤ gb185)); have n3_ := Aside0.mk ((by rw [hg]; exact (below_size (by repeat (first | (with_reducible first | exact HB.out | apply below_alloc | apply pw_below_drewN | apply below_drew1) | exact HB.out))) : w.heap.size ≤ gb185)); clear HB; have HB := n0_; have BK185 := n1_; have GW185 := n2_; have GE185 := n3_; clear n0_ n1_ n2_ n3_; clear hb hbox hg; have hcz6_0 : w5.cell? ⟨gb185, 0, none⟩ = some (.int .i64 a0_0) := (blk_cell BK185.out 0).trans rfl; have hcz6_1 : w5.cell? ⟨gb185, 1, none⟩ = some (.int .i64 a0_1) := (blk_cell BK185.out 1).trans rfl; have hcz6_2 : w5.cell? ⟨gb185, 2, none⟩ = some (.int .i64 a0_2) := (blk_cell BK185.out 2).trans rfl; have hcz6_3 : w5.cell? ⟨gb185, 3, none⟩ = some (.string a0_3) := (blk_cell BK185.out 3).trans rfl; have hfz6_0 := blk_frozen BK185.out 0; have hfz6_1 := blk_frozen BK185.out 1; have hfz6_2 := blk_frozen BK185.out 2; have hfz6_3 := blk_frozen BK185.out 3) | ((with_reducible refine gate_callee (f := 44) rfl ?_); refine goesL_ (some 11) rfl rfl Try.func44 (by kernel_rfl) rfl #[.agg #[.int .i64 a0_0, .int .i64 a0_1, .int .i64 a0_2, .string a0_3]] rfl (by (try simp only [List.map_toArray, List.map_cons, List.map_nil]); first | done | rfl | (simp only [List.length_drop, List.length_take]; rfl)) ?_; (with_reducible refine (bywashref1_FrameRight.calls a0_0 a0_1 a0_2 a0_3 true _ A2.out).mono ?_); rintro e w7 ⟨rfl, hb⟩; refine ⟨_, rfl, ?_⟩; have n0_ := Aside0.mk (blk_below (g := gb185) (o := .cells #[.int .i64 a0_0, .int .i64 a0_1, .int .i64 a0_2, .string a0_3] 39 (0, 0)) (by (with_reducible repeat (first | refine blk_drewN ?_ _ | refine blk_drew ?_ | refine blk_alloc ?_ _)); exact BK185.out) hb); have n1_ := Aside0.mk (below_step (by repeat (first | (with_reducible first | exact HB.out | apply below_alloc | apply pw_below_drewN | apply below_drew1 | refine below_set ?_ GE185.out) | exact HB.out)) hb); clear BK185; clear HB; have BK185 := n0_; have HB := n1_; clear n0_ n1_; (try clear hb); (try clear hb2); (try clear hk); (try clear hi); have hcz8_0 : w7.cell? ⟨gb185, 0, none⟩ = some (.int .i64 a0_0) := (blk_cell BK185.out 0).trans rfl; have hcz8_1 : w7.cell? ⟨gb185, 1, none⟩ = some (.int .i64 a0_1) := (blk_cell BK185.out 1).trans rfl; have hcz8_2 : w7.cell? ⟨gb185, 2, none⟩ = some (.int .i64 a0_2) := (blk_cell BK185.out 2).trans rfl; have hcz8_3 : w7.cell? ⟨gb185, 3, none⟩ = some (.string a0_3) := (blk_cell BK185.out 3).trans rfl; have hfz8_0 := blk_frozen BK185.out 0; have hfz8_1 := blk_frozen BK185.out 1; have hfz8_2 := blk_frozen BK185.out 2; have hfz8_3 := blk_frozen BK185.out 3))
  (try simp only [Act.put, List.setIfInBounds_toArray, List.set_cons_zero, List.set_cons_succ])
  go_cut [5, 6] (fun v5 v6 wc => ∃ (kq : Nat) (x5_3 : Bool) (x6_3 : Bool), v5 = .bool x5_3 ∧ v6 = .bool x6_3 ∧ Aside0 (bywashref1_Check.j1 kq x5_3 x6_3 a0_0 a0_1 a0_2 a0_3 = some (r1, r2)) ∧ Aside0 (kq ≤ k) ∧ Aside0 (wc.heap[gb185]? = some (.cells #[.int .i64 a0_0, .int .i64 a0_1, .int .i64 a0_2, .string a0_3] 39 (0, 0))) ∧ Aside0 (Below w.heap.size w wc))
  case first =>
   have H := HC4.out
   clear HC4
   by_cases c9 : a0_0 = 5
   ·rw [if_pos c9] at H
    have c9b0 : (a0_0 == 5) = true := beq_iff_eq.mpr c9
    have c9b1 : (a0_0 != 5) = false := bne_eq_false_iff_eq.mpr c9
    clear c9
    (first | rw [c9b0] | (simp only [i64_w, i32_w]; rw [c9b0]) | skip)
    simp only [Option.some.injEq, Prod.mk.injEq] at H
    obtain ⟨rfl, rfl⟩ := H
    go_wp2
    go_ret2
    exact ⟨by first | rfl | (simp [errW_none, errW_some] <;> rfl) | (simp [*, errW_none, errW_some] <;> rfl), by repeat (first | (with_reducible first | exact HB.out | apply below_alloc | apply pw_below_drewN | apply below_drew1 | refine below_set ?_ GE185.out) | exact HB.out)⟩
   ·rw [if_neg c9] at H
    have c9b0 : (a0_0 == 5) = false := beq_eq_false_iff_ne.mpr c9
    have c9b1 : (a0_0 != 5) = true := bne_iff_ne.mpr c9
    (first | rw [c9b0] | (simp only [i64_w, i32_w]; rw [c9b0]) | skip)
    have HC10 := Aside0.mk H
    clear H
    go_upto_if 20 with (fail)
    go_cut [20] (fun v20 wc => ∃ (kq : Nat) (x20_9 : Bool), v20 = .bool x20_9 ∧ Aside0 (bywashref1_Check.j0 kq (a0_3.size : Int) false false a0_0 x20_9 a0_0 a0_1 a0_2 a0_3 = some (r1, r2)) ∧ Aside0 (kq ≤ k) ∧ Aside0 (wc.heap[gb185]? = some (.cells #[.int .i64 a0_0, .int .i64 a0_1, .int .i64 a0_2, .string a0_3] 39 (0, 0))) ∧ Aside0 (Below w.heap.size w wc))
    case first =>
     have H := HC10.out
     clear HC10
     by_cases c11 : a0_0 = 0
     ·rw [if_pos c11] at H
      have c11b0 : (a0_0 == 0) = true := beq_iff_eq.mpr c11
      have c11b1 : (a0_0 != 0) = false := bne_eq_false_iff_eq.mpr c11
      clear c11
      (first | rw [c11b0] | (simp only [i64_w, i32_w]; rw [c11b0]) | skip)
      have H' := Aside0.mk H
      clear H
      go_wp2
      go_meet
      case rel => exact ⟨_, ((a0_0 == 0)), (by first | rfl | (simp; done) | (simp [*]; done)), H', ⟨by first | omega | exact Nat.le_refl _⟩, ⟨by (with_reducible repeat (first | refine blk_drewN ?_ _ | refine blk_drew ?_ | refine blk_alloc ?_ _)); exact BK185.out⟩, ⟨by repeat (first | (with_reducible first | exact HB.out | apply below_alloc | apply pw_below_drewN | apply below_drew1 | refine below_set ?_ GE185.out) | exact HB.out)⟩⟩
     ·rw [if_neg c11] at H
      have c11b0 : (a0_0 == 0) = false := beq_eq_false_iff_ne.mpr c11
      have c11b1 : (a0_0 != 0) = true := bne_iff_ne.mpr c11
      (first | rw [c11b0] | (simp only [i64_w, i32_w]; rw [c11b0]) | skip)
      by_cases c12 : a0_0 = 1
      ·rw [if_pos c12] at H
       have c12b0 : (a0_0 == 1) = true := beq_iff_eq.mpr c12
       have c12b1 : (a0_0 != 1) = false := bne_eq_false_iff_eq.mpr c12
       clear c12
       have H' := Aside0.mk H
       clear H
       go_wp2
       go_meet
       case rel => exact ⟨_, ((a0_0 == 1)), (by first | rfl | (simp; done) | (simp [*]; done)), H', ⟨by first | omega | exact Nat.le_refl _⟩, ⟨by (with_reducible repeat (first | refine blk_drewN ?_ _ | refine blk_drew ?_ | refine blk_alloc ?_ _)); exact BK185.out⟩, ⟨by repeat (first | (with_reducible first | exact HB.out | apply below_alloc | apply pw_below_drewN | apply below_drew1 | refine below_set ?_ GE185.out) | exact HB.out)⟩⟩
      ·rw [if_neg c12] at H
       have c12b0 : (a0_0 == 1) = false := beq_eq_false_iff_ne.mpr c12
       have c12b1 : (a0_0 != 1) = true := bne_iff_ne.mpr c12
       have H' := Aside0.mk H
       clear H
       go_wp2
       go_meet
       case rel => exact ⟨_, ((a0_0 == 9)), (by first | rfl | (simp; done) | (simp [*]; done)), H', ⟨by first | omega | exact Nat.le_refl _⟩, ⟨by (with_reducible repeat (first | refine blk_drewN ?_ _ | refine blk_drew ?_ | refine blk_alloc ?_ _)); exact BK185.out⟩, ⟨by repeat (first | (with_reducible first | exact HB.out | apply below_alloc | apply pw_below_drewN | apply below_drew1 | refine below_set ?_ GE185.out) | exact HB.out)⟩⟩
    case rest =>
     clear HC10
     try clear c1
     try clear c2
     try clear p2
     try clear c3
     try clear c4
     try clear c9
     try clear c9b0
     try clear c9b1
     try clear c11
     try clear c11b0
     try clear c11b1
     try clear c12
     try clear c12b0
     try clear c12b1
     try clear hcz6_0
     try clear hcz6_1
     try clear hcz6_2
     try clear hcz6_3
     try clear hcz8_0
     try clear hcz8_1
     try clear hcz8_2
     try clear hcz8_3
     try clear hfz6_0
     try clear hfz6_1
     try clear hfz6_2
     try clear hfz6_3
     try clear hfz8_0
     try clear hfz8_1
     try clear hfz8_2
     try clear hfz8_3
     obtain ⟨kq, x20_9, rfl, HA, HJ9, BK185, HB⟩ := hcut
     cases kq with
     | zero => exact absurd HA.out (by simp [bywashref1_Check.j0])
     | succ kj9 =>
      have H := HA.out
      clear HA
      simp only [bywashref1_Check.j0] at H
      by_cases c13 : x20_9 = true
      ·subst c13
       have H1 : (bywashref1_Check.j1 kj9 (a0_2 == 0) false a0_0 a0_1 a0_2 a0_3) = some (r1, r2) := by rw [if_pos rfl] at H; exact H
       clear H
       have H := H1
       clear H1
       have H' := Aside0.mk H
       clear H
       have hcz14_0 : wc.cell? ⟨gb185, 0, none⟩ = some (.int .i64 a0_0) := (blk_cell BK185.out 0).trans rfl
       have hcz14_1 : wc.cell? ⟨gb185, 1, none⟩ = some (.int .i64 a0_1) := (blk_cell BK185.out 1).trans rfl
       have hcz14_2 : wc.cell? ⟨gb185, 2, none⟩ = some (.int .i64 a0_2) := (blk_cell BK185.out 2).trans rfl
       have hcz14_3 : wc.cell? ⟨gb185, 3, none⟩ = some (.string a0_3) := (blk_cell BK185.out 3).trans rfl
       have hfz14_0 := blk_frozen BK185.out 0
       have hfz14_1 := blk_frozen BK185.out 1
       have hfz14_2 := blk_frozen BK185.out 2
       have hfz14_3 := blk_frozen BK185.out 3
       go_wp2
       go_meet
       case rel => exact ⟨_, ((a0_2 == 0)), (false), (by first | rfl | (simp; done) | (simp [*]; done)), (by first | rfl | (simp; done) | (simp [*]; done)), H', ⟨by have := HJ9.out; first | omega | exact Nat.le_refl _⟩, ⟨by (with_reducible repeat (first | refine blk_drewN ?_ _ | refine blk_drew ?_ | refine blk_alloc ?_ _)); exact BK185.out⟩, ⟨by repeat (first | (with_reducible first | exact HB.out | apply below_alloc | apply pw_below_drewN | apply below_drew1 | refine below_set ?_ GE185.out) | exact HB.out)⟩⟩
      ·replace c13 := Bool.eq_false_iff.mpr c13
       subst c13
       have H1 : (if a0_0 = 2 then (bywashref1_Check.j1 kj9 (a0_2 == 0) ((a0_3.size : Int) != 5) a0_0 a0_1 a0_2 a0_3) else (if a0_0 = 3 then (bywashref1_Check.j1 kj9 (a0_2 == 0) ((a0_3.size : Int) != 4) a0_0 a0_1 a0_2 a0_3) else (if a0_0 = 4 then (if (Int.tmod (a0_3.size : Int) 6) = 0 then (if (Go.bits .and .i64 a0_1 1) = 0 then (bywashref1_Check.j1 kj9 (a0_2 != 0) false a0_0 a0_1 a0_2 a0_3) else (bywashref1_Check.j1 kj9 (a0_2 != 0) (decide ((a0_3.size : Int) > 0)) a0_0 a0_1 a0_2 a0_3)) else (bywashref1_Check.j1 kj9 (a0_2 != 0) true a0_0 a0_1 a0_2 a0_3)) else (if a0_0 = 6 then (bywashref1_Check.j1 kj9 (a0_2 != 0) ((a0_3.size : Int) != 8) a0_0 a0_1 a0_2 a0_3) else (if a0_0 = 7 then (bywashref1_Check.j1 kj9 (a0_2 != 0) (decide ((a0_3.size : Int) < 8)) a0_0 a0_1 a0_2 a0_3) else (if a0_0 = 8 then (bywashref1_Check.j1 kj9 false ((a0_3.size : Int) != 4) a0_0 a0_1 a0_2 a0_3) else (bywashref1_Check.j1 kj9 false false a0_0 a0_1 a0_2 a0_3))))))) = some (r1, r2) := by rw [if_neg (show ¬ (false = true) by decide)] at H; exact H
       clear H
       have H := H1
       clear H1
       by_cases c15 : a0_0 = 2
       ·rw [if_pos c15] at H
        have c15b0 : (a0_0 == 2) = true := beq_iff_eq.mpr c15
        have c15b1 : (a0_0 != 2) = false := bne_eq_false_iff_eq.mpr c15
        clear c15
        have H' := Aside0.mk H
        clear H
        have hcz16_0 : wc.cell? ⟨gb185, 0, none⟩ = some (.int .i64 a0_0) := (blk_cell BK185.out 0).trans rfl
        have hcz16_1 : wc.cell? ⟨gb185, 1, none⟩ = some (.int .i64 a0_1) := (blk_cell BK185.out 1).trans rfl
        have hcz16_2 : wc.cell? ⟨gb185, 2, none⟩ = some (.int .i64 a0_2) := (blk_cell BK185.out 2).trans rfl
        have hcz16_3 : wc.cell? ⟨gb185, 3, none⟩ = some (.string a0_3) := (blk_cell BK185.out 3).trans rfl
        have hfz16_0 := blk_frozen BK185.out 0
        have hfz16_1 := blk_frozen BK185.out 1
        have hfz16_2 := blk_frozen BK185.out 2
        have hfz16_3 := blk_frozen BK185.out 3
        go_wp2
        go_meet
        case rel => exact ⟨_, ((a0_2 == 0)), (((a0_3.size : Int) != 5)), (by first | rfl | (simp; done) | (simp [*]; done)), (by first | rfl | (simp; done) | (simp [*]; done)), H', ⟨by have := HJ9.out; first | omega | exact Nat.le_refl _⟩, ⟨by (with_reducible repeat (first | refine blk_drewN ?_ _ | refine blk_drew ?_ | refine blk_alloc ?_ _)); exact BK185.out⟩, ⟨by repeat (first | (with_reducible first | exact HB.out | apply below_alloc | apply pw_below_drewN | apply below_drew1 | refine below_set ?_ GE185.out) | exact HB.out)⟩⟩
       ·rw [if_neg c15] at H
        have c15b0 : (a0_0 == 2) = false := beq_eq_false_iff_ne.mpr c15
        have c15b1 : (a0_0 != 2) = true := bne_iff_ne.mpr c15
        by_cases c17 : a0_0 = 3
        ·rw [if_pos c17] at H
         have c17b0 : (a0_0 == 3) = true := beq_iff_eq.mpr c17
         have c17b1 : (a0_0 != 3) = false := bne_eq_false_iff_eq.mpr c17
         clear c17
         have H' := Aside0.mk H
         clear H
         have hcz18_0 : wc.cell? ⟨gb185, 0, none⟩ = some (.int .i64 a0_0) := (blk_cell BK185.out 0).trans rfl
         have hcz18_1 : wc.cell? ⟨gb185, 1, none⟩ = some (.int .i64 a0_1) := (blk_cell BK185.out 1).trans rfl
         have hcz18_2 : wc.cell? ⟨gb185, 2, none⟩ = some (.int .i64 a0_2) := (blk_cell BK185.out 2).trans rfl
         have hcz18_3 : wc.cell? ⟨gb185, 3, none⟩ = some (.string a0_3) := (blk_cell BK185.out 3).trans rfl
         have hfz18_0 := blk_frozen BK185.out 0
         have hfz18_1 := blk_frozen BK185.out 1
         have hfz18_2 := blk_frozen BK185.out 2
         have hfz18_3 := blk_frozen BK185.out 3
         go_wp2
         go_meet
         case rel => exact ⟨_, ((a0_2 == 0)), (((a0_3.size : Int) != 4)), (by first | rfl | (simp; done) | (simp [*]; done)), (by first | rfl | (simp; done) | (simp [*]; done)), H', ⟨by have := HJ9.out; first | omega | exact Nat.le_refl _⟩, ⟨by (with_reducible repeat (first | refine blk_drewN ?_ _ | refine blk_drew ?_ | refine blk_alloc ?_ _)); exact BK185.out⟩, ⟨by repeat (first | (with_reducible first | exact HB.out | apply below_alloc | apply pw_below_drewN | apply below_drew1 | refine below_set ?_ GE185.out) | exact HB.out)⟩⟩
        ·rw [if_neg c17] at H
         have c17b0 : (a0_0 == 3) = false := beq_eq_false_iff_ne.mpr c17
         have c17b1 : (a0_0 != 3) = true := bne_iff_ne.mpr c17
         by_cases c19 : a0_0 = 4
         ·rw [if_pos c19] at H
          have c19b0 : (a0_0 == 4) = true := beq_iff_eq.mpr c19
          have c19b1 : (a0_0 != 4) = false := bne_eq_false_iff_eq.mpr c19
          clear c19
          by_cases c20 : (Int.tmod (a0_3.size : Int) 6) = 0
          ·rw [if_pos c20] at H
           have c20b0 : ((Int.tmod (a0_3.size : Int) 6) == 0) = true := beq_iff_eq.mpr c20
           have c20m : (((a0_3.size : Int) % 6) == 0) = true := by have z := c20b0; rw [Int.tmod_eq_emod_of_nonneg (by omega)] at z; exact z
           have c20m1 : (((a0_3.size : Int) % 6) != 0) = false := by have z := c20m; simp only [bne, z]; rfl
           have c20b1 : ((Int.tmod (a0_3.size : Int) 6) != 0) = false := bne_eq_false_iff_eq.mpr c20
           clear c20
           by_cases c21 : (Go.bits .and .i64 a0_1 1) = 0
           ·rw [if_pos c21] at H
            have c21b0 : ((Go.bits .and .i64 a0_1 1) == 0) = true := beq_iff_eq.mpr c21
            have c21b1 : ((Go.bits .and .i64 a0_1 1) != 0) = false := bne_eq_false_iff_eq.mpr c21
            clear c21
            have H' := Aside0.mk H
            clear H
            have hcz22_0 : wc.cell? ⟨gb185, 0, none⟩ = some (.int .i64 a0_0) := (blk_cell BK185.out 0).trans rfl
            have hcz22_1 : wc.cell? ⟨gb185, 1, none⟩ = some (.int .i64 a0_1) := (blk_cell BK185.out 1).trans rfl
            have hcz22_2 : wc.cell? ⟨gb185, 2, none⟩ = some (.int .i64 a0_2) := (blk_cell BK185.out 2).trans rfl
            have hcz22_3 : wc.cell? ⟨gb185, 3, none⟩ = some (.string a0_3) := (blk_cell BK185.out 3).trans rfl
            have hfz22_0 := blk_frozen BK185.out 0
            have hfz22_1 := blk_frozen BK185.out 1
            have hfz22_2 := blk_frozen BK185.out 2
            have hfz22_3 := blk_frozen BK185.out 3
            go_wp2
            go_meet
            case rel => exact ⟨_, ((a0_2 != 0)), (false), (by first | rfl | (simp; done) | (simp [*]; done)), (by first | rfl | (simp; done) | (simp [*]; done)), H', ⟨by have := HJ9.out; first | omega | exact Nat.le_refl _⟩, ⟨by (with_reducible repeat (first | refine blk_drewN ?_ _ | refine blk_drew ?_ | refine blk_alloc ?_ _)); exact BK185.out⟩, ⟨by repeat (first | (with_reducible first | exact HB.out | apply below_alloc | apply pw_below_drewN | apply below_drew1 | refine below_set ?_ GE185.out) | exact HB.out)⟩⟩
           ·rw [if_neg c21] at H
            have c21b0 : ((Go.bits .and .i64 a0_1 1) == 0) = false := beq_eq_false_iff_ne.mpr c21
            have c21b1 : ((Go.bits .and .i64 a0_1 1) != 0) = true := bne_iff_ne.mpr c21
            have H' := Aside0.mk H
            clear H
            have hcz23_0 : wc.cell? ⟨gb185, 0, none⟩ = some (.int .i64 a0_0) := (blk_cell BK185.out 0).trans rfl
            have hcz23_1 : wc.cell? ⟨gb185, 1, none⟩ = some (.int .i64 a0_1) := (blk_cell BK185.out 1).trans rfl
            have hcz23_2 : wc.cell? ⟨gb185, 2, none⟩ = some (.int .i64 a0_2) := (blk_cell BK185.out 2).trans rfl
            have hcz23_3 : wc.cell? ⟨gb185, 3, none⟩ = some (.string a0_3) := (blk_cell BK185.out 3).trans rfl
            have hfz23_0 := blk_frozen BK185.out 0
            have hfz23_1 := blk_frozen BK185.out 1
            have hfz23_2 := blk_frozen BK185.out 2
            have hfz23_3 := blk_frozen BK185.out 3
            go_wp2
            go_meet
            case rel => exact ⟨_, ((a0_2 != 0)), (decide ((a0_3.size : Int) > 0)), (by first | rfl | (simp; done) | (simp [*]; done)), (by first | rfl | (simp; done) | (simp [*]; done)), H', ⟨by have := HJ9.out; first | omega | exact Nat.le_refl _⟩, ⟨by (with_reducible repeat (first | refine blk_drewN ?_ _ | refine blk_drew ?_ | refine blk_alloc ?_ _)); exact BK185.out⟩, ⟨by repeat (first | (with_reducible first | exact HB.out | apply below_alloc | apply pw_below_drewN | apply below_drew1 | refine below_set ?_ GE185.out) | exact HB.out)⟩⟩
          ·rw [if_neg c20] at H
           have c20b0 : ((Int.tmod (a0_3.size : Int) 6) == 0) = false := beq_eq_false_iff_ne.mpr c20
           have c20m : (((a0_3.size : Int) % 6) == 0) = false := by have z := c20b0; rw [Int.tmod_eq_emod_of_nonneg (by omega)] at z; exact z
           have c20m1 : (((a0_3.size : Int) % 6) != 0) = true := by have z := c20m; simp only [bne, z]; rfl
           have c20b1 : ((Int.tmod (a0_3.size : Int) 6) != 0) = true := bne_iff_ne.mpr c20
           have H' := Aside0.mk H
           clear H
           have hcz24_0 : wc.cell? ⟨gb185, 0, none⟩ = some (.int .i64 a0_0) := (blk_cell BK185.out 0).trans rfl
           have hcz24_1 : wc.cell? ⟨gb185, 1, none⟩ = some (.int .i64 a0_1) := (blk_cell BK185.out 1).trans rfl
           have hcz24_2 : wc.cell? ⟨gb185, 2, none⟩ = some (.int .i64 a0_2) := (blk_cell BK185.out 2).trans rfl
           have hcz24_3 : wc.cell? ⟨gb185, 3, none⟩ = some (.string a0_3) := (blk_cell BK185.out 3).trans rfl
           have hfz24_0 := blk_frozen BK185.out 0
           have hfz24_1 := blk_frozen BK185.out 1
           have hfz24_2 := blk_frozen BK185.out 2
           have hfz24_3 := blk_frozen BK185.out 3
           go_wp2
           go_meet
           case rel => exact ⟨_, ((a0_2 != 0)), (true), (by first | rfl | (simp; done) | (simp [*]; done)), (by first | rfl | (simp; done) | (simp [*]; done)), H', ⟨by have := HJ9.out; first | omega | exact Nat.le_refl _⟩, ⟨by (with_reducible repeat (first | refine blk_drewN ?_ _ | refine blk_drew ?_ | refine blk_alloc ?_ _)); exact BK185.out⟩, ⟨by repeat (first | (with_reducible first | exact HB.out | apply below_alloc | apply pw_below_drewN | apply below_drew1 | refine below_set ?_ GE185.out) | exact HB.out)⟩⟩
         ·rw [if_neg c19] at H
          have c19b0 : (a0_0 == 4) = false := beq_eq_false_iff_ne.mpr c19
          have c19b1 : (a0_0 != 4) = true := bne_iff_ne.mpr c19
          by_cases c25 : a0_0 = 6
          ·rw [if_pos c25] at H
           have c25b0 : (a0_0 == 6) = true := beq_iff_eq.mpr c25
           have c25b1 : (a0_0 != 6) = false := bne_eq_false_iff_eq.mpr c25
           clear c25
           have H' := Aside0.mk H
           clear H
           have hcz26_0 : wc.cell? ⟨gb185, 0, none⟩ = some (.int .i64 a0_0) := (blk_cell BK185.out 0).trans rfl
           have hcz26_1 : wc.cell? ⟨gb185, 1, none⟩ = some (.int .i64 a0_1) := (blk_cell BK185.out 1).trans rfl
           have hcz26_2 : wc.cell? ⟨gb185, 2, none⟩ = some (.int .i64 a0_2) := (blk_cell BK185.out 2).trans rfl
           have hcz26_3 : wc.cell? ⟨gb185, 3, none⟩ = some (.string a0_3) := (blk_cell BK185.out 3).trans rfl
           have hfz26_0 := blk_frozen BK185.out 0
           have hfz26_1 := blk_frozen BK185.out 1
           have hfz26_2 := blk_frozen BK185.out 2
           have hfz26_3 := blk_frozen BK185.out 3
           go_wp2
           go_meet
           case rel => exact ⟨_, ((a0_2 != 0)), (((a0_3.size : Int) != 8)), (by first | rfl | (simp; done) | (simp [*]; done)), (by first | rfl | (simp; done) | (simp [*]; done)), H', ⟨by have := HJ9.out; first | omega | exact Nat.le_refl _⟩, ⟨by (with_reducible repeat (first | refine blk_drewN ?_ _ | refine blk_drew ?_ | refine blk_alloc ?_ _)); exact BK185.out⟩, ⟨by repeat (first | (with_reducible first | exact HB.out | apply below_alloc | apply pw_below_drewN | apply below_drew1 | refine below_set ?_ GE185.out) | exact HB.out)⟩⟩
          ·rw [if_neg c25] at H
           have c25b0 : (a0_0 == 6) = false := beq_eq_false_iff_ne.mpr c25
           have c25b1 : (a0_0 != 6) = true := bne_iff_ne.mpr c25
           by_cases c27 : a0_0 = 7
           ·rw [if_pos c27] at H
            have c27b0 : (a0_0 == 7) = true := beq_iff_eq.mpr c27
            have c27b1 : (a0_0 != 7) = false := bne_eq_false_iff_eq.mpr c27
            clear c27
            have H' := Aside0.mk H
            clear H
            have hcz28_0 : wc.cell? ⟨gb185, 0, none⟩ = some (.int .i64 a0_0) := (blk_cell BK185.out 0).trans rfl
            have hcz28_1 : wc.cell? ⟨gb185, 1, none⟩ = some (.int .i64 a0_1) := (blk_cell BK185.out 1).trans rfl
            have hcz28_2 : wc.cell? ⟨gb185, 2, none⟩ = some (.int .i64 a0_2) := (blk_cell BK185.out 2).trans rfl
            have hcz28_3 : wc.cell? ⟨gb185, 3, none⟩ = some (.string a0_3) := (blk_cell BK185.out 3).trans rfl
            have hfz28_0 := blk_frozen BK185.out 0
            have hfz28_1 := blk_frozen BK185.out 1
            have hfz28_2 := blk_frozen BK185.out 2
            have hfz28_3 := blk_frozen BK185.out 3
            go_wp2
            go_meet
            case rel => exact ⟨_, ((a0_2 != 0)), (decide ((a0_3.size : Int) < 8)), (by first | rfl | (simp; done) | (simp [*]; done)), (by first | rfl | (simp; done) | (simp [*]; done)), H', ⟨by have := HJ9.out; first | omega | exact Nat.le_refl _⟩, ⟨by (with_reducible repeat (first | refine blk_drewN ?_ _ | refine blk_drew ?_ | refine blk_alloc ?_ _)); exact BK185.out⟩, ⟨by repeat (first | (with_reducible first | exact HB.out | apply below_alloc | apply pw_below_drewN | apply below_drew1 | refine below_set ?_ GE185.out) | exact HB.out)⟩⟩
           ·rw [if_neg c27] at H
            have c27b0 : (a0_0 == 7) = false := beq_eq_false_iff_ne.mpr c27
            have c27b1 : (a0_0 != 7) = true := bne_iff_ne.mpr c27
            by_cases c29 : a0_0 = 8
            ·rw [if_pos c29] at H
             have c29b0 : (a0_0 == 8) = true := beq_iff_eq.mpr c29
             have c29b1 : (a0_0 != 8) = false := bne_eq_false_iff_eq.mpr c29
             clear c29
             have H' := Aside0.mk H
             clear H
             go_wp2
             go_meet
             case rel => exact ⟨_, (false), (((a0_3.size : Int) != 4)), (by first | rfl | (simp; done) | (simp [*]; done)), (by first | rfl | (simp; done) | (simp [*]; done)), H', ⟨by have := HJ9.out; first | omega | exact Nat.le_refl _⟩, ⟨by (with_reducible repeat (first | refine blk_drewN ?_ _ | refine blk_drew ?_ | refine blk_alloc ?_ _)); exact BK185.out⟩, ⟨by repeat (first | (with_reducible first | exact HB.out | apply below_alloc | apply pw_below_drewN | apply below_drew1 | refine below_set ?_ GE185.out) | exact HB.out)⟩⟩
            ·rw [if_neg c29] at H
             have c29b0 : (a0_0 == 8) = false := beq_eq_false_iff_ne.mpr c29
             have c29b1 : (a0_0 != 8) = true := bne_iff_ne.mpr c29
             have H' := Aside0.mk H
             clear H
             go_wp2
             go_meet
             case rel => exact ⟨_, (false), (false), (by first | rfl | (simp; done) | (simp [*]; done)), (by first | rfl | (simp; done) | (simp [*]; done)), H', ⟨by have := HJ9.out; first | omega | exact Nat.le_refl _⟩, ⟨by (with_reducible repeat (first | refine blk_drewN ?_ _ | refine blk_drew ?_ | refine blk_alloc ?_ _)); exact BK185.out⟩, ⟨by repeat (first | (with_reducible first | exact HB.out | apply below_alloc | apply pw_below_drewN | apply below_drew1 | refine below_set ?_ GE185.out) | exact HB.out)⟩⟩
  case rest =>
   clear HC4
   try clear c1
   try clear c2
   try clear p2
   try clear c3
   try clear c4
   try clear c9
   try clear c9b0
   try clear c9b1
   try clear c11
   try clear c11b0
   try clear c11b1
   try clear c12
   try clear c12b0
   try clear c12b1
   try clear c13
   try clear c15
   try clear c15b0
   try clear c15b1
   try clear c17
   try clear c17b0
   try clear c17b1
   try clear c19
   try clear c19b0
   try clear c19b1
   try clear c20
   try clear c20b0
   try clear c20b1
   try clear c21
   try clear c21b0
   try clear c21b1
   try clear c25
   try clear c25b0
   try clear c25b1
   try clear c27
   try clear c27b0
   try clear c27b1
   try clear c29
   try clear c29b0
   try clear c29b1
   try clear hcz14_0
   try clear hcz14_1
   try clear hcz14_2
   try clear hcz14_3
   try clear hcz16_0
   try clear hcz16_1
   try clear hcz16_2
   try clear hcz16_3
   try clear hcz18_0
   try clear hcz18_1
   try clear hcz18_2
   try clear hcz18_3
   try clear hcz22_0
   try clear hcz22_1
   try clear hcz22_2
   try clear hcz22_3
   try clear hcz23_0
   try clear hcz23_1
   try clear hcz23_2
   try clear hcz23_3
   try clear hcz24_0
   try clear hcz24_1
   try clear hcz24_2
   try clear hcz24_3
   try clear hcz26_0
   try clear hcz26_1
   try clear hcz26_2
   try clear hcz26_3
   try clear hcz28_0
   try clear hcz28_1
   try clear hcz28_2
   try clear hcz28_3
   try clear hcz6_0
   try clear hcz6_1
   try clear hcz6_2
   try clear hcz6_3
   try clear hcz8_0
   try clear hcz8_1
   try clear hcz8_2
   try clear hcz8_3
   try clear hfz14_0
   try clear hfz14_1
   try clear hfz14_2
   try clear hfz14_3
   try clear hfz16_0
   try clear hfz16_1
   try clear hfz16_2
   try clear hfz16_3
   try clear hfz18_0
   try clear hfz18_1
   try clear hfz18_2
   try clear hfz18_3
   try clear hfz22_0
   try clear hfz22_1
   try clear hfz22_2
   try clear hfz22_3
   try clear hfz23_0
   try clear hfz23_1
   try clear hfz23_2
   try clear hfz23_3
   try clear hfz24_0
   try clear hfz24_1
   try clear hfz24_2
   try clear hfz24_3
   try clear hfz26_0
   try clear hfz26_1
   try clear hfz26_2
   try clear hfz26_3
   try clear hfz28_0
   try clear hfz28_1
   try clear hfz28_2
   try clear hfz28_3
   try clear hfz6_0
   try clear hfz6_1
   try clear hfz6_2
   try clear hfz6_3
   try clear hfz8_0
   try clear hfz8_1
   try clear hfz8_2
   try clear hfz8_3
   try clear p2
   obtain ⟨kq, x5_3, x6_3, rfl, rfl, HA, HJ3, BK185, HB⟩ := hcut
   cases kq with
   | zero => exact absurd HA.out (by simp [bywashref1_Check.j1])
   | succ kj3 =>
    have H := HA.out
    clear HA
    simp only [bywashref1_Check.j1] at H
    by_cases c30 : x5_3 = true
    ·subst c30
     have H1 : (some (1, 11)) = some (r1, r2) := by rw [if_pos rfl] at H; exact H
     clear H
     have H := H1
     clear H1
     simp only [Option.some.injEq, Prod.mk.injEq] at H
     obtain ⟨rfl, rfl⟩ := H
     go_wp2
     go_ret2
     exact ⟨by first | rfl | (simp [errW_none, errW_some] <;> rfl) | (simp [*, errW_none, errW_some] <;> rfl), by repeat (first | (with_reducible first | exact HB.out | apply below_alloc | apply pw_below_drewN | apply below_drew1 | refine below_set ?_ GE185.out) | exact HB.out)⟩
    ·replace c30 := Bool.eq_false_iff.mpr c30
     subst c30
     have H1 : (if x6_3 = true then (some (6, 5)) else ((bywashref1_Strip.f kj3 a0_0 a0_1 a0_2 a0_3).bind fun bt187 => (if bt187.2.2 = 5 then (some (6, bt187.2.2)) else (if bt187.2.2 = 11 then (some (1, bt187.2.2)) else (some (0, 0)))))) = some (r1, r2) := by rw [if_neg (show ¬ (false = true) by decide)] at H; exact H
     clear H
     have H := H1
     clear H1
     by_cases c31 : x6_3 = true
     ·subst c31
      have H1 : (some (6, 5)) = some (r1, r2) := by rw [if_pos rfl] at H; exact H
      clear H
      have H := H1
      clear H1
      simp only [Option.some.injEq, Prod.mk.injEq] at H
      obtain ⟨rfl, rfl⟩ := H
      go_wp2
      go_ret2
      exact ⟨by first | rfl | (simp [errW_none, errW_some] <;> rfl) | (simp [*, errW_none, errW_some] <;> rfl), by repeat (first | (with_reducible first | exact HB.out | apply below_alloc | apply pw_below_drewN | apply below_drew1 | refine below_set ?_ GE185.out) | exact HB.out)⟩
     ·replace c31 := Bool.eq_false_iff.mpr c31
      subst c31
      have H1 : ((bywashref1_Strip.f kj3 a0_0 a0_1 a0_2 a0_3).bind fun bt187 => (if bt187.2.2 = 5 then (some (6, bt187.2.2)) else (if bt187.2.2 = 11 then (some (1, bt187.2.2)) else (some (0, 0))))) = some (r1, r2) := by rw [if_neg (show ¬ (false = true) by decide)] at H; exact H
      clear H
      have H := H1
      clear H1
      replace H := Option.bind_eq_some_iff.mp H
      obtain ⟨⟨t187, t188, t189⟩, A320, H⟩ := H
      replace H : (if t189 = 5 then (some (6, t189)) else (if t189 = 11 then (some (1, t189)) else (some (0, 0)))) = some (r1, r2) := H
      have A32 := Aside0.mk A320
      clear A320
      by_cases c33 : t189 = 5
      ·rw [if_pos c33] at H
       have c33b0 : (t189 == 5) = true := beq_iff_eq.mpr c33
       have c33b1 : (t189 != 5) = false := bne_eq_false_iff_eq.mpr c33
       clear c33
       simp only [Option.some.injEq, Prod.mk.injEq] at H
       obtain ⟨rfl, rfl⟩ := H
       have hcz34_0 : wc.cell? ⟨gb185, 0, none⟩ = some (.int .i64 a0_0) := (blk_cell BK185.out 0).trans rfl
       have hcz34_1 : wc.cell? ⟨gb185, 1, none⟩ = some (.int .i64 a0_1) := (blk_cell BK185.out 1).trans rfl
       have hcz34_2 : wc.cell? ⟨gb185, 2, none⟩ = some (.int .i64 a0_2) := (blk_cell BK185.out 2).trans rfl
       have hcz34_3 : wc.cell? ⟨gb185, 3, none⟩ = some (.string a0_3) := (blk_cell BK185.out 3).trans rfl
       have hfz34_0 := blk_frozen BK185.out 0
       have hfz34_1 := blk_frozen BK185.out 1
       have hfz34_2 := blk_frozen BK185.out 2
       have hfz34_3 := blk_frozen BK185.out 3
       go_wp2_with (first | ((with_reducible refine gate_callee (f := 45) rfl ?_); refine goesL_ (some 81) rfl rfl Try.func45 (by kernel_rfl) rfl #[.agg #[.int .i64 a0_0, .int .i64 a0_1, .int .i64 a0_2, .string a0_3]] rfl (by (try simp only [List.map_toArray, List.map_cons, List.map_nil]); first | done | rfl | (simp only [List.length_drop, List.length_take]; rfl)) ?_; (with_reducible refine (bywashref1_Strip.calls kj3 a0_0 a0_1 a0_2 a0_3 t187 t188 t189 _ A32.out).mono ?_); rintro e w35 ⟨rfl, hb⟩; refine ⟨_, rfl, ?_⟩; have n0_ := Aside0.mk (blk_below (g := gb185) (o := .cells #[.int .i64 a0_0, .int .i64 a0_1, .int .i64 a0_2, .string a0_3] 39 (0, 0)) (by (with_reducible repeat (first | refine blk_drewN ?_ _ | refine blk_drew ?_ | refine blk_alloc ?_ _)); exact BK185.out) hb); have n1_ := Aside0.mk (below_step (by repeat (first | (with_reducible first | exact HB.out | apply below_alloc | apply pw_below_drewN | apply below_drew1 | refine below_set ?_ GE185.out) | exact HB.out)) hb); clear BK185; clear HB; have BK185 := n0_; have HB := n1_; clear n0_ n1_; (try clear hb); (try clear hb2); (try clear hk); (try clear hi)))
       go_ret2
       exact ⟨by first | rfl | (simp [errW_none, errW_some] <;> rfl) | (simp [*, errW_none, errW_some] <;> rfl), by repeat (first | (with_reducible first | exact HB.out | apply below_alloc | apply pw_below_drewN | apply below_drew1 | refine below_set ?_ GE185.out) | exact HB.out)⟩
      ·rw [if_neg c33] at H
       have c33b0 : (t189 == 5) = false := beq_eq_false_iff_ne.mpr c33
       have c33b1 : (t189 != 5) = true := bne_iff_ne.mpr c33
       by_cases c36 : t189 = 11
       ·rw [if_pos c36] at H
        have c36b0 : (t189 == 11) = true := beq_iff_eq.mpr c36
        have c36b1 : (t189 != 11) = false := bne_eq_false_iff_eq.mpr c36
        clear c36
        simp only [Option.some.injEq, Prod.mk.injEq] at H
        obtain ⟨rfl, rfl⟩ := H
        have hcz37_0 : wc.cell? ⟨gb185, 0, none⟩ = some (.int .i64 a0_0) := (blk_cell BK185.out 0).trans rfl
        have hcz37_1 : wc.cell? ⟨gb185, 1, none⟩ = some (.int .i64 a0_1) := (blk_cell BK185.out 1).trans rfl
        have hcz37_2 : wc.cell? ⟨gb185, 2, none⟩ = some (.int .i64 a0_2) := (blk_cell BK185.out 2).trans rfl
        have hcz37_3 : wc.cell? ⟨gb185, 3, none⟩ = some (.string a0_3) := (blk_cell BK185.out 3).trans rfl
        have hfz37_0 := blk_frozen BK185.out 0
        have hfz37_1 := blk_frozen BK185.out 1
        have hfz37_2 := blk_frozen BK185.out 2
        have hfz37_3 := blk_frozen BK185.out 3
        go_wp2_with (first | ((with_reducible refine gate_callee (f := 45) rfl ?_); refine goesL_ (some 81) rfl rfl Try.func45 (by kernel_rfl) rfl #[.agg #[.int .i64 a0_0, .int .i64 a0_1, .int .i64 a0_2, .string a0_3]] rfl (by (try simp only [List.map_toArray, List.map_cons, List.map_nil]); first | done | rfl | (simp only [List.length_drop, List.length_take]; rfl)) ?_; (with_reducible refine (bywashref1_Strip.calls kj3 a0_0 a0_1 a0_2 a0_3 t187 t188 t189 _ A32.out).mono ?_); rintro e w38 ⟨rfl, hb⟩; refine ⟨_, rfl, ?_⟩; have n0_ := Aside0.mk (blk_below (g := gb185) (o := .cells #[.int .i64 a0_0, .int .i64 a0_1, .int .i64 a0_2, .string a0_3] 39 (0, 0)) (by (with_reducible repeat (first | refine blk_drewN ?_ _ | refine blk_drew ?_ | refine blk_alloc ?_ _)); exact BK185.out) hb); have n1_ := Aside0.mk (below_step (by repeat (first | (with_reducible first | exact HB.out | apply below_alloc | apply pw_below_drewN | apply below_drew1 | refine below_set ?_ GE185.out) | exact HB.out)) hb); clear BK185; clear HB; have BK185 := n0_; have HB := n1_; clear n0_ n1_; (try clear hb); (try clear hb2); (try clear hk); (try clear hi)))
        go_ret2
        exact ⟨by first | rfl | (simp [errW_none, errW_some] <;> rfl) | (simp [*, errW_none, errW_some] <;> rfl), by repeat (first | (with_reducible first | exact HB.out | apply below_alloc | apply pw_below_drewN | apply below_drew1 | refine below_set ?_ GE185.out) | exact HB.out)⟩
       ·rw [if_neg c36] at H
        have c36b0 : (t189 == 11) = false := beq_eq_false_iff_ne.mpr c36
        have c36b1 : (t189 != 11) = true := bne_iff_ne.mpr c36
        simp only [Option.some.injEq, Prod.mk.injEq] at H
        obtain ⟨rfl, rfl⟩ := H
        have hcz39_0 : wc.cell? ⟨gb185, 0, none⟩ = some (.int .i64 a0_0) := (blk_cell BK185.out 0).trans rfl
        have hcz39_1 : wc.cell? ⟨gb185, 1, none⟩ = some (.int .i64 a0_1) := (blk_cell BK185.out 1).trans rfl
        have hcz39_2 : wc.cell? ⟨gb185, 2, none⟩ = some (.int .i64 a0_2) := (blk_cell BK185.out 2).trans rfl
        have hcz39_3 : wc.cell? ⟨gb185, 3, none⟩ = some (.string a0_3) := (blk_cell BK185.out 3).trans rfl
        have hfz39_0 := blk_frozen BK185.out 0
        have hfz39_1 := blk_frozen BK185.out 1
        have hfz39_2 := blk_frozen BK185.out 2
        have hfz39_3 := blk_frozen BK185.out 3
        go_wp2_with (first | ((with_reducible refine gate_callee (f := 45) rfl ?_); refine goesL_ (some 81) rfl rfl Try.func45 (by kernel_rfl) rfl #[.agg #[.int .i64 a0_0, .int .i64 a0_1, .int .i64 a0_2, .string a0_3]] rfl (by (try simp only [List.map_toArray, List.map_cons, List.map_nil]); first | done | rfl | (simp only [List.length_drop, List.length_take]; rfl)) ?_; (with_reducible refine (bywashref1_Strip.calls kj3 a0_0 a0_1 a0_2 a0_3 t187 t188 t189 _ A32.out).mono ?_); rintro e w40 ⟨rfl, hb⟩; refine ⟨_, rfl, ?_⟩; have n0_ := Aside0.mk (blk_below (g := gb185) (o := .cells #[.int .i64 a0_0, .int .i64 a0_1, .int .i64 a0_2, .string a0_3] 39 (0, 0)) (by (with_reducible repeat (first | refine blk_drewN ?_ _ | refine blk_drew ?_ | refine blk_alloc ?_ _)); exact BK185.out) hb); have n1_ := Aside0.mk (below_step (by repeat (first | (with_reducible first | exact HB.out | apply below_alloc | apply pw_below_drewN | apply below_drew1 | refine below_set ?_ GE185.out) | exact HB.out)) hb); clear BK185; clear HB; have BK185 := n0_; have HB := n1_; clear n0_ n1_; (try clear hb); (try clear hb2); (try clear hk); (try clear hi)))
        go_ret2
        exact ⟨by first | rfl | (simp [errW_none, errW_some] <;> rfl) | (simp [*, errW_none, errW_some] <;> rfl), by repeat (first | (with_reducible first | exact HB.out | apply below_alloc | apply pw_below_drewN | apply below_drew1 | refine below_set ?_ GE185.out) | exact HB.out)⟩
 ·replace c3 := Bool.eq_false_iff.mpr c3
  subst c3
  have H1 : (some (1, 1)) = some (r1, r2) := by rw [if_neg (show ¬ (false = true) by decide)] at H; exact H
  clear H
  have H := H1
  clear H1
  simp only [Option.some.injEq, Prod.mk.injEq] at H
  obtain ⟨rfl, rfl⟩ := H
  go_enter Try.func20, Try.ntmps20
  go_wp2_with (first | ((with_reducible refine gate_dst (N := 1) rfl ?_); refine box_event ?hg (N := 1) ?hd (cs := #[.int .i64 a0_0, .int .i64 a0_1, .int .i64 a0_2, .string a0_3]) (t := 39) ?hr ?_; (case hd => rfl); (case hg => rfl); (case hr => first | (go_simp; done) | (go_simp; rfl)); intro gb185 hg w41 hbox hb; have n0_ := Aside0.mk (below_step (by repeat (first | (with_reducible first | exact HB.out | apply below_alloc | apply pw_below_drewN | apply below_drew1) | exact HB.out)) hb); have n1_ := Aside0.mk (hbox); have n2_ := Aside0.mk ((by rw [hg]; exact (below_size (by repeat (first | (with_reducible first | exact HB.out | apply below_alloc | apply pw_below_drewN | apply below_drew1) | exact HB.out))) : w.heap.size ≤ gb185)); have n3_ := Aside0.mk ((by rw [hg]; exact (below_size (by repeat (first | (with_reducible first | exact HB.out | apply below_alloc | apply pw_below_drewN | apply below_drew1) | exact HB.out))) : w.heap.size ≤ gb185)); clear HB; have HB := n0_; have BK185 := n1_; have GW185 := n2_; have GE185 := n3_; clear n0_ n1_ n2_ n3_; clear hb hbox hg; have hcz42_0 : w41.cell? ⟨gb185, 0, none⟩ = some (.int .i64 a0_0) := (blk_cell BK185.out 0).trans rfl; have hcz42_1 : w41.cell? ⟨gb185, 1, none⟩ = some (.int .i64 a0_1) := (blk_cell BK185.out 1).trans rfl; have hcz42_2 : w41.cell? ⟨gb185, 2, none⟩ = some (.int .i64 a0_2) := (blk_cell BK185.out 2).trans rfl; have hcz42_3 : w41.cell? ⟨gb185, 3, none⟩ = some (.string a0_3) := (blk_cell BK185.out 3).trans rfl; have hfz42_0 := blk_frozen BK185.out 0; have hfz42_1 := blk_frozen BK185.out 1; have hfz42_2 := blk_frozen BK185.out 2; have hfz42_3 := blk_frozen BK185.out 3) | ((with_reducible refine gate_callee (f := 44) rfl ?_); refine goesL_ (some 11) rfl rfl Try.func44 (by kernel_rfl) rfl #[.agg #[.int .i64 a0_0, .int .i64 a0_1, .int .i64 a0_2, .string a0_3]] rfl (by (try simp only [List.map_toArray, List.map_cons, List.map_nil]); first | done | rfl | (simp only [List.length_drop, List.length_take]; rfl)) ?_; (with_reducible refine (bywashref1_FrameRight.calls a0_0 a0_1 a0_2 a0_3 false _ A2.out).mono ?_); rintro e w43 ⟨rfl, hb⟩; refine ⟨_, rfl, ?_⟩; have n0_ := Aside0.mk (blk_below (g := gb185) (o := .cells #[.int .i64 a0_0, .int .i64 a0_1, .int .i64 a0_2, .string a0_3] 39 (0, 0)) (by (with_reducible repeat (first | refine blk_drewN ?_ _ | refine blk_drew ?_ | refine blk_alloc ?_ _)); exact BK185.out) hb); have n1_ := Aside0.mk (below_step (by repeat (first | (with_reducible first | exact HB.out | apply below_alloc | apply pw_below_drewN | apply below_drew1 | refine below_set ?_ GE185.out) | exact HB.out)) hb); clear BK185; clear HB; have BK185 := n0_; have HB := n1_; clear n0_ n1_; (try clear hb); (try clear hb2); (try clear hk); (try clear hi)))
  go_ret2
  exact ⟨by first | rfl | (simp [errW_none, errW_some] <;> rfl) | (simp [*, errW_none, errW_some] <;> rfl), by repeat (first | (with_reducible first | exact HB.out | apply below_alloc | apply pw_below_drewN | apply below_drew1 | refine below_set ?_ GE185.out) | exact HB.out)⟩

end Go.Proofs.Ytdonanibfifodaa.PBlockPlays
