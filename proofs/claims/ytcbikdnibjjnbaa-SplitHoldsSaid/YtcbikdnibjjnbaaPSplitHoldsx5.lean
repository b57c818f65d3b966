-- Written by a program of this session (the kit's printer, turned): the functions that the law reaches.
import Derived.Test.YtcbikdnibjjnbaaPSplitHoldsx0
import Derived.Test.YtcbikdnibjjnbaaPSplitHoldsx1
import Derived.Test.YtcbikdnibjjnbaaPSplitHoldsx2
import Derived.Test.YtcbikdnibjjnbaaPSplitHoldsx3
import Derived.Test.YtcbikdnibjjnbaaPSplitHoldsx4
namespace Go.Proofs.Ytcbikdnibjjnbaa.PSplitHolds
open Go.RowKit Go.Proofs.YtcbikdnibjjnbaaW.PrintWords Go.Proofs.YtcbikdnibjjnbaaW.PrintLast Go.Proofs.YtcbikdnibjjnbaaW.PrintMore
attribute [local go_sem] max2_int min2_int max_two min_two max_three min_three max_four min_four   -- for this text's walks alone
set_option linter.unusedVariables false
set_option linter.unusedSimpArgs false

attribute [local go_sem high] eqA28
/-! ### bywashlaw8_SplitHolds: function 6 -/
mutual
def bywashlaw8_SplitHolds.j0 : Nat → Int → ByteArray → Bool → Int → Int → Int → ByteArray → Option (Bool)
  | 0, _, _, _, _, _, _, _ => none
  | k + 1, x1, x5, x31, x176000, x176001, x176002, x176003 => if x31 = true then ((bywashlaw8_alive.f k).bind fun t179 => (some t179)) else ((split_New.f 512).bind fun bt180 => (if (x5.size : Int) < 9 then (some false) else (if (x5.size : Int) = 0 then (none) else (if 0 ≤ (Int.tmod (wrap64 ((Int.tmod x1 (x5.size : Int)) + (x5.size : Int))) (x5.size : Int)) then (if (Int.tmod (wrap64 ((Int.tmod x1 (x5.size : Int)) + (x5.size : Int))) (x5.size : Int)) ≤ (x5.size : Int) then ((split_Splitter_Feed.f bt180.1 bt180.2.1 bt180.2.2 (x5.extract 0 ((Int.tmod (wrap64 ((Int.tmod x1 (x5.size : Int)) + (x5.size : Int))) (x5.size : Int)) : Int).toNat)).bind fun bt184 => (if bt184.1 = (Int.tmod (wrap64 ((Int.tmod x1 (x5.size : Int)) + (x5.size : Int))) (x5.size : Int)) then ((split_Splitter_Held.f bt184.2.1 bt184.2.2.1 bt184.2.2.2).bind fun bt188 => (bywashlaw8_SplitHolds.j1 k x5 (Int.tmod (wrap64 ((Int.tmod x1 (x5.size : Int)) + (x5.size : Int))) (x5.size : Int)) (bt188.1 != (Int.tmod (wrap64 ((Int.tmod x1 (x5.size : Int)) + (x5.size : Int))) (x5.size : Int))) x176000 x176001 x176002 x176003 bt188.2.1 bt188.2.2.1 bt188.2.2.2)) else (bywashlaw8_SplitHolds.j1 k x5 (Int.tmod (wrap64 ((Int.tmod x1 (x5.size : Int)) + (x5.size : Int))) (x5.size : Int)) true x176000 x176001 x176002 x176003 bt184.2.1 bt184.2.2.1 bt184.2.2.2))) else (none)) else (none)))))
def bywashlaw8_SplitHolds.j1 : Nat → ByteArray → Int → Bool → Int → Int → Int → ByteArray → ByteArray → Int → Bool → Option (Bool)
  | 0, _, _, _, _, _, _, _, _, _, _ => none
  | k + 1, x5, x8, x63, x176000, x176001, x176002, x176003, x184000, x184001, x184002 => if x63 = true then (some false) else ((split_Splitter_Next.f k x184000 x184001 x184002).bind fun bt192 => (if bt192.2.2.2.2.1 = true then (bywashlaw8_SplitHolds.j2 k true x176000 x176001 x176002 x176003 bt192.2.2.2.2.2.2.1 bt192.2.2.2.2.2.2.2.1 bt192.2.2.2.2.2.2.2.2) else (if bt192.2.2.2.2.2.1 = 0 then ((split_Splitter_Held.f bt192.2.2.2.2.2.2.1 bt192.2.2.2.2.2.2.2.1 bt192.2.2.2.2.2.2.2.2).bind fun bt202 => (if bt202.1 = x8 then (if 0 ≤ x8 then (if x8 ≤ (x5.size : Int) then ((split_Splitter_Feed.f bt202.2.1 bt202.2.2.1 bt202.2.2.2 (x5.extract (x8 : Int).toNat x5.size)).bind fun bt206 => (bywashlaw8_SplitHolds.j2 k (bt206.1 != (wrap64 ((x5.size : Int) - x8))) x176000 x176001 x176002 x176003 bt206.2.1 bt206.2.2.1 bt206.2.2.2)) else (none)) else (none)) else (bywashlaw8_SplitHolds.j2 k true x176000 x176001 x176002 x176003 bt202.2.1 bt202.2.2.1 bt202.2.2.2))) else (bywashlaw8_SplitHolds.j2 k true x176000 x176001 x176002 x176003 bt192.2.2.2.2.2.2.1 bt192.2.2.2.2.2.2.2.1 bt192.2.2.2.2.2.2.2.2))))
def bywashlaw8_SplitHolds.j2 : Nat → Bool → Int → Int → Int → ByteArray → ByteArray → Int → Bool → Option (Bool)
  | 0, _, _, _, _, _, _, _, _ => none
  | k + 1, x92, x176000, x176001, x176002, x176003, x184000, x184001, x184002 => if x92 = true then (some false) else ((split_Splitter_Next.f k x184000 x184001 x184002).bind fun bt210 => (if bt210.2.2.2.2.1 = true then (if bt210.2.2.2.2.2.1 = 0 then (if (bt210.1 == x176000 && (bt210.2.1 == x176001 && (bt210.2.2.1 == x176002 && (bt210.2.2.2.1.toList == x176003.toList)))) = true then ((split_Splitter_Held.f bt210.2.2.2.2.2.2.1 bt210.2.2.2.2.2.2.2.1 bt210.2.2.2.2.2.2.2.2).bind fun bt220 => (some (bt220.1 == 0))) else (some false)) else (some false)) else (some false)))
end
def bywashlaw8_SplitHolds.f (k : Nat) (a0_0 : Int) (a0_1 : Int) (a0_2 : Int) (a0_3 : ByteArray) (a1 : Int) : Option (Bool) := (bywashref1_FramePut.f k a0_0 a0_1 a0_2 a0_3).bind fun bt176 => (if bt176.2 = true then (if (a0_3.size : Int) > 512 then (bywashlaw8_SplitHolds.j0 k a1 bt176.1 true a0_0 a0_1 a0_2 a0_3) else ((bywashlaw8_alive.f k).bind fun t178 => (bywashlaw8_SplitHolds.j0 k a1 bt176.1 (!t178) a0_0 a0_1 a0_2 a0_3))) else (bywashlaw8_SplitHolds.j0 k a1 bt176.1 true a0_0 a0_1 a0_2 a0_3))
theorem bywashlaw8_SplitHolds.mono_l : ∀ k, (∀ y0 y1 y2 y3 y4 y5 y6, LeO (bywashlaw8_SplitHolds.j0 k y0 y1 y2 y3 y4 y5 y6) (bywashlaw8_SplitHolds.j0 (k + 1) y0 y1 y2 y3 y4 y5 y6)) ∧ (∀ y0 y1 y2 y3 y4 y5 y6 y7 y8 y9, LeO (bywashlaw8_SplitHolds.j1 k y0 y1 y2 y3 y4 y5 y6 y7 y8 y9) (bywashlaw8_SplitHolds.j1 (k + 1) y0 y1 y2 y3 y4 y5 y6 y7 y8 y9)) ∧ (∀ y0 y1 y2 y3 y4 y5 y6 y7, LeO (bywashlaw8_SplitHolds.j2 k y0 y1 y2 y3 y4 y5 y6 y7) (bywashlaw8_SplitHolds.j2 (k + 1) y0 y1 y2 y3 y4 y5 y6 y7))
  | 0 => ⟨fun _ _ _ _ _ _ _ r h => by simp [bywashlaw8_SplitHolds.j0] at h, fun _ _ _ _ _ _ _ _ _ _ r h => by simp [bywashlaw8_SplitHolds.j1] at h, fun _ _ _ _ _ _ _ _ r h => by simp [bywashlaw8_SplitHolds.j2] at h⟩
  | k + 1 => by
    obtain ⟨ih0, ih1, ih2⟩ := bywashlaw8_SplitHolds.mono_l k
    refine ⟨?_, ?_, ?_⟩
    · intro y0 y1 y2 y3 y4 y5 y6
      unfold bywashlaw8_SplitHolds.j0
      repeat' first
      | (with_reducible exact ih0 _ _ _ _ _ _ _)
      | (with_reducible exact ih1 _ _ _ _ _ _ _ _ _ _)
      | (with_reducible exact ih2 _ _ _ _ _ _ _ _)
      | (with_reducible exact bywashlaw8_alive.mono _)
      | (with_reducible exact bywashref1_FramePut.mono _ _ _ _ _)
      | (with_reducible exact split_Splitter_Next.mono _ _ _ _)
      | (with_reducible exact LeO.refl _)
      | (with_reducible exact LeO.none _)
      | (with_reducible refine LeO.ite ?_ ?_)
      | (with_reducible refine LeO.bind ?_ (fun _ => ?_))
      | exact ih0 _ _ _ _ _ _ _
      | exact ih1 _ _ _ _ _ _ _ _ _ _
      | exact ih2 _ _ _ _ _ _ _ _
      | exact bywashlaw8_alive.mono _
      | exact bywashref1_FramePut.mono _ _ _ _ _
      | exact split_Splitter_Next.mono _ _ _ _
      | exact LeO.none _
      | refine LeO.ite ?_ ?_
      | refine LeO.bind ?_ (fun _ => ?_)
    · intro y0 y1 y2 y3 y4 y5 y6 y7 y8 y9
      unfold bywashlaw8_SplitHolds.j1
      repeat' first
      | (with_reducible exact ih0 _ _ _ _ _ _ _)
      | (with_reducible exact ih1 _ _ _ _ _ _ _ _ _ _)
      | (with_reducible exact ih2 _ _ _ _ _ _ _ _)
      | (with_reducible exact bywashlaw8_alive.mono _)
      | (with_reducible exact bywashref1_FramePut.mono _ _ _ _ _)
      | (with_reducible exact split_Splitter_Next.mono _ _ _ _)
      | (with_reducible exact LeO.refl _)
      | (with_reducible exact LeO.none _)
      | (with_reducible refine LeO.ite ?_ ?_)
      | (with_reducible refine LeO.bind ?_ (fun _ => ?_))
      | exact ih0 _ _ _ _ _ _ _
      | exact ih1 _ _ _ _ _ _ _ _ _ _
      | exact ih2 _ _ _ _ _ _ _ _
      | exact bywashlaw8_alive.mono _
      | exact bywashref1_FramePut.mono _ _ _ _ _
      | exact split_Splitter_Next.mono _ _ _ _
      | exact LeO.none _
      | refine LeO.ite ?_ ?_
      | refine LeO.bind ?_ (fun _ => ?_)
    · intro y0 y1 y2 y3 y4 y5 y6 y7
      unfold bywashlaw8_SplitHolds.j2
      repeat' first
      | (with_reducible exact ih0 _ _ _ _ _ _ _)
      | (with_reducible exact ih1 _ _ _ _ _ _ _ _ _ _)
      | (with_reducible exact ih2 _ _ _ _ _ _ _ _)
      | (with_reducible exact bywashlaw8_alive.mono _)
      | (with_reducible exact bywashref1_FramePut.mono _ _ _ _ _)
      | (with_reducible exact split_Splitter_Next.mono _ _ _ _)
      | (with_reducible exact LeO.refl _)
      | (with_reducible exact LeO.none _)
      | (with_reducible refine LeO.ite ?_ ?_)
      | (with_reducible refine LeO.bind ?_ (fun _ => ?_))
      | exact ih0 _ _ _ _ _ _ _
      | exact ih1 _ _ _ _ _ _ _ _ _ _
      | exact ih2 _ _ _ _ _ _ _ _
      | exact bywashlaw8_alive.mono _
      | exact bywashref1_FramePut.mono _ _ _ _ _
      | exact split_Splitter_Next.mono _ _ _ _
      | exact LeO.none _
      | refine LeO.ite ?_ ?_
      | refine LeO.bind ?_ (fun _ => ?_)
theorem bywashlaw8_SplitHolds.mono : ∀ a0 a1 a2 a3 a4 k, LeO (bywashlaw8_SplitHolds.f k a0 a1 a2 a3 a4) (bywashlaw8_SplitHolds.f (k + 1) a0 a1 a2 a3 a4) := by
  intro a0 a1 a2 a3 a4 k
  obtain ⟨ih0, ih1, ih2⟩ := bywashlaw8_SplitHolds.mono_l k
  unfold bywashlaw8_SplitHolds.f
  repeat' first
      | (with_reducible exact ih0 _ _ _ _ _ _ _)
      | (with_reducible exact ih1 _ _ _ _ _ _ _ _ _ _)
      | (with_reducible exact ih2 _ _ _ _ _ _ _ _)
      | (with_reducible exact bywashlaw8_alive.mono _)
      | (with_reducible exact bywashref1_FramePut.mono _ _ _ _ _)
      | (with_reducible exact split_Splitter_Next.mono _ _ _ _)
      | (with_reducible exact LeO.refl _)
      | (with_reducible exact LeO.none _)
      | (with_reducible refine LeO.ite ?_ ?_)
      | (with_reducible refine LeO.bind ?_ (fun _ => ?_))
      | exact ih0 _ _ _ _ _ _ _
      | exact ih1 _ _ _ _ _ _ _ _ _ _
      | exact ih2 _ _ _ _ _ _ _ _
      | exact bywashlaw8_alive.mono _
      | exact bywashref1_FramePut.mono _ _ _ _ _
      | exact split_Splitter_Next.mono _ _ _ _
      | exact LeO.none _
      | refine LeO.ite ?_ ?_
      | refine LeO.bind ?_ (fun _ => ?_)
set_option maxHeartbeats 8000000 in
set_option maxRecDepth 100000 in
theorem bywashlaw8_SplitHolds.calls (k : Nat) (a0_0 : Int) (a0_1 : Int) (a0_2 : Int) (a0_3 : ByteArray) (a1 : Int) (r : Bool) (w : World) (h : bywashlaw8_SplitHolds.f k a0_0 a0_1 a0_2 a0_3 a1 = some r) :
    Calls Try.prog 6 #[.agg #[.int .i64 a0_0, .int .i64 a0_1, .int .i64 a0_2, .string a0_3], .int .i64 a1] w fun e w' => e = .returned (.bool r) ∧ Below w.heap.size w w' := by
  have hu28 := Try.underlying28
  have HB := Aside0.mk (Below.refl w.heap.size w)
  have H : ((bywashref1_FramePut.f k a0_0 a0_1 a0_2 a0_3).bind fun bt176 => (if bt176.2 = true then (if (a0_3.size : Int) > 512 then (bywashlaw8_SplitHolds.j0 k a1 bt176.1 true a0_0 a0_1 a0_2 a0_3) else ((bywashlaw8_alive.f k).bind fun t178 => (bywashlaw8_SplitHolds.j0 k a1 bt176.1 (!t178) a0_0 a0_1 a0_2 a0_3))) else (bywashlaw8_SplitHolds.j0 k a1 bt176.1 true a0_0 a0_1 a0_2 a0_3))) = some r := h
  clear h
  replace H := Option.bind_eq_some_iff.mp H
  obtain ⟨⟨t176, t177⟩, A30, H⟩ := H
  replace H : (if t177 = true then (if (a0_3.size : Int) > 512 then (bywashlaw8_SplitHolds.j0 k a1 t176 true a0_0 a0_1 a0_2 a0_3) else ((bywashlaw8_alive.f k).bind fun t178 => (bywashlaw8_SplitHolds.j0 k a1 t176 (!t178) a0_0 a0_1 a0_2 a0_3))) else (bywashlaw8_SplitHolds.j0 k a1 t176 true a0_0 a0_1 a0_2 a0_3)) = some r := H
  have A3 := Aside0.mk A30
  clear A30
  have HC4 := Aside0.mk H
  clear H
  go_enter Try.func6, Try.ntmps6
  go_upto_region 2 with (first | ((with_reducible refine gate_dst (N := 2) rfl ?_); (try (refine gate_guard (by rfl) ?_; dsimp only)); refine box_event ?hg (N := 2) ?hd (cs := #[.int .i64 a0_0, .int .i64 a0_1, .int .i64 a0_2, .string a0_3]) (t := 28) ?hr ?_; (case hd => rfl); (case hg => rfl); (case hr => first | (go_simp; done) | (go_simp; rfl)); intro gb175 hg w5 hbox hb; have n0_ := Aside0.mk (below_step (by repeat (first | (with_reducible first | exact HB.out | apply below_alloc | apply pw_below_drewN | apply below_drew1) | exact HB.out)) hb); have n1_ := Aside0.mk (hbox); have n2_ := Aside0.mk ((by rw [hg]; exact (below_size (by repeat (first | (with_reducible first | exact HB.out | apply below_alloc | apply pw_below_drewN | apply below_drew1) | exact HB.out))) : w.heap.size ≤ gb175)); have n3_ := Aside0.mk ((by rw [hg]; exact (below_size (by repeat (first | (with_reducible first | exact HB.out | apply below_alloc | apply pw_below_drewN | apply below_drew1) | exact HB.out))) : w.heap.size ≤ gb175)); clear HB; have HB := n0_; have BK175 := n1_; have GW175 := n2_; have GE175 := n3_; clear n0_ n1_ n2_ n3_; clear hb hbox hg; have hcz6_0 : w5.cell? ⟨gb175, 0, none⟩ = some (.int .i64 a0_0) := (blk_cell BK175.out 0).trans rfl; have hcz6_1 : w5.cell? ⟨gb175, 1, none⟩ = some (.int .i64 a0_1) := (blk_cell BK175.out 1).trans rfl; have hcz6_2 : w5.cell? ⟨gb175, 2, none⟩ = some (.int .i64 a0_2) := (blk_cell BK175.out 2).trans rfl; have hcz6_3 : w5.cell? ⟨gb175, 3, none⟩ = some (.string a0_3) := (blk_cell BK175.out 3).trans rfl; have hfz6_0 := blk_frozen BK175.out 0; have hfz6_1 := blk_frozen BK175.out 1; have hfz6_2 := blk_frozen BK175.out 2; have hfz6_3 := blk_frozen BK175.out 3) | ((with_reducible refine gate_callee (f := 16) rfl ?_); refine goesL_ (some 17) rfl rfl Try.func16 (by kernel_rfl) rfl #[.agg #[.int .i64 a0_0, .int .i64 a0_1, .int .i64 a0_2, .string a0_3]] rfl (by (try simp only [List.map_toArray, List.map_cons, List.map_nil]); first | done | rfl | (simp only [List.length_drop, List.length_take]; rfl)) ?_; (with_reducible refine (bywashref1_FramePut.calls k a0_0 a0_1 a0_2 a0_3 t176 t177 _ A3.out).mono ?_); rintro e w7 ⟨rfl, hb⟩; refine ⟨_, rfl, ?_⟩; have n0_ := Aside0.mk (blk_below (g := gb175) (o := .cells #[.int .i64 a0_0, .int .i64 a0_1, .int .i64 a0_2, .string a0_3] 28 (0, 0)) (by (with_reducible repeat (first | refine blk_drewN ?_ _ | refine blk_drew ?_ | refine blk_alloc ?_ _)); exact BK175.out) hb); have n1_ := Aside0.mk (below_step (by repeat (first | (with_reducible first | exact HB.out | apply below_alloc | apply pw_below_drewN | apply below_drew1 | refine below_set ?_ GE175.out) | exact HB.out)) hb); clear BK175; clear HB; have BK175 := n0_; have HB := n1_; clear n0_ n1_; (try clear hb); (try clear hb2); (try clear hk); (try clear hi)))
  (try simp only [Act.put, List.setIfInBounds_toArray, List.set_cons_zero, List.set_cons_succ])
  go_cut [31] (fun v31 wc => ∃ (kq : Nat) (x31_3 : Bool), v31 = .bool x31_3 ∧ Aside0 (bywashlaw8_SplitHolds.j0 kq a1 t176 x31_3 a0_0 a0_1 a0_2 a0_3 = some r) ∧ Aside0 (kq ≤ k) ∧ Aside0 (wc.heap[gb175]? = some (.cells #[.int .i64 a0_0, .int .i64 a0_1, .int .i64 a0_2, .string a0_3] 28 (0, 0))) ∧ Aside0 (Below w.heap.size w wc))
  case first =>
    have H := HC4.out
    clear HC4
    by_cases c8 : t177 = true
    · subst c8
      have H1 : (if (a0_3.size : Int) > 512 then (bywashlaw8_SplitHolds.j0 k a1 t176 true a0_0 a0_1 a0_2 a0_3) else ((bywashlaw8_alive.f k).bind fun t178 => (bywashlaw8_SplitHolds.j0 k a1 t176 (!t178) a0_0 a0_1 a0_2 a0_3))) = some r := by rw [if_pos rfl] at H; exact H
      clear H
      have H := H1
      clear H1
      by_cases c9 : (a0_3.size : Int) > 512
      · rw [if_pos c9] at H
        have c9b0 : decide (512 < (a0_3.size : Int)) = true := decide_eq_true c9
        have c9b1 : decide (512 < a0_3.size) = true := decide_eq_true (by omega)
        clear c9
        (first | rw [c9b0] | (simp only [i64_w, i32_w]; rw [c9b0]) | skip)
        have H' := Aside0.mk H
        clear H
        have hcz10_0 : w7.cell? ⟨gb175, 0, none⟩ = some (.int .i64 a0_0) := (blk_cell BK175.out 0).trans rfl
        have hcz10_1 : w7.cell? ⟨gb175, 1, none⟩ = some (.int .i64 a0_1) := (blk_cell BK175.out 1).trans rfl
        have hcz10_2 : w7.cell? ⟨gb175, 2, none⟩ = some (.int .i64 a0_2) := (blk_cell BK175.out 2).trans rfl
        have hcz10_3 : w7.cell? ⟨gb175, 3, none⟩ = some (.string a0_3) := (blk_cell BK175.out 3).trans rfl
        have hfz10_0 := blk_frozen BK175.out 0
        have hfz10_1 := blk_frozen BK175.out 1
        have hfz10_2 := blk_frozen BK175.out 2
        have hfz10_3 := blk_frozen BK175.out 3
        go_wp2
        go_meet
        case rel => exact ⟨_, (true), (by first | rfl | (simp; done) | (simp [*]; done)), H', ⟨by first | omega | exact Nat.le_refl _⟩, ⟨by (with_reducible repeat (first | refine blk_drewN ?_ _ | refine blk_drew ?_ | refine blk_alloc ?_ _)); exact BK175.out⟩, ⟨by repeat (first | (with_reducible first | exact HB.out | apply below_alloc | apply pw_below_drewN | apply below_drew1 | refine below_set ?_ GE175.out) | exact HB.out)⟩⟩
      · rw [if_neg c9] at H
        have c9b0 : decide (512 < (a0_3.size : Int)) = false := decide_eq_false c9
        have c9b1 : decide (512 < a0_3.size) = false := decide_eq_false (by omega)
        clear c9
        (first | rw [c9b0] | (simp only [i64_w, i32_w]; rw [c9b0]) | skip)
        replace H := Option.bind_eq_some_iff.mp H
        obtain ⟨t178, A110, H⟩ := H
        replace H : (bywashlaw8_SplitHolds.j0 k a1 t176 (!t178) a0_0 a0_1 a0_2 a0_3) = some r := H
        have A11 := Aside0.mk A110
        clear A110
        have H' := Aside0.mk H
        clear H
        have hcz12_0 : w7.cell? ⟨gb175, 0, none⟩ = some (.int .i64 a0_0) := (blk_cell BK175.out 0).trans rfl
        have hcz12_1 : w7.cell? ⟨gb175, 1, none⟩ = some (.int .i64 a0_1) := (blk_cell BK175.out 1).trans rfl
        have hcz12_2 : w7.cell? ⟨gb175, 2, none⟩ = some (.int .i64 a0_2) := (blk_cell BK175.out 2).trans rfl
        have hcz12_3 : w7.cell? ⟨gb175, 3, none⟩ = some (.string a0_3) := (blk_cell BK175.out 3).trans rfl
        have hfz12_0 := blk_frozen BK175.out 0
        have hfz12_1 := blk_frozen BK175.out 1
        have hfz12_2 := blk_frozen BK175.out 2
        have hfz12_3 := blk_frozen BK175.out 3
        go_wp2_with (first | (go_at_call 9; (with_reducible refine (bywashlaw8_alive.calls k  t178 _ A11.out).mono ?_); rintro e w13 ⟨rfl, hb⟩; have n0_ := Aside0.mk (blk_below (g := gb175) (o := .cells #[.int .i64 a0_0, .int .i64 a0_1, .int .i64 a0_2, .string a0_3] 28 (0, 0)) (by (with_reducible repeat (first | refine blk_drewN ?_ _ | refine blk_drew ?_ | refine blk_alloc ?_ _)); exact BK175.out) hb); have n1_ := Aside0.mk (below_step (by repeat (first | (with_reducible first | exact HB.out | apply below_alloc | apply pw_below_drewN | apply below_drew1 | refine below_set ?_ GE175.out) | exact HB.out)) hb); clear BK175; clear HB; have BK175 := n0_; have HB := n1_; clear n0_ n1_; (try clear hb); (try clear hb2); (try clear hk); (try clear hi)))
        go_meet
        case rel => exact ⟨_, (!t178), (by first | rfl | (simp; done) | (simp [*]; done)), H', ⟨by first | omega | exact Nat.le_refl _⟩, ⟨by (with_reducible repeat (first | refine blk_drewN ?_ _ | refine blk_drew ?_ | refine blk_alloc ?_ _)); exact BK175.out⟩, ⟨by repeat (first | (with_reducible first | exact HB.out | apply below_alloc | apply pw_below_drewN | apply below_drew1 | refine below_set ?_ GE175.out) | exact HB.out)⟩⟩
    · replace c8 := Bool.eq_false_iff.mpr c8
      subst c8
      have H1 : (bywashlaw8_SplitHolds.j0 k a1 t176 true a0_0 a0_1 a0_2 a0_3) = some r := by rw [if_neg (show ¬ (false = true) by decide)] at H; exact H
      clear H
      have H := H1
      clear H1
      have H' := Aside0.mk H
      clear H
      go_wp2
      go_meet
      case rel => exact ⟨_, (true), (by first | rfl | (simp; done) | (simp [*]; done)), H', ⟨by first | omega | exact Nat.le_refl _⟩, ⟨by (with_reducible repeat (first | refine blk_drewN ?_ _ | refine blk_drew ?_ | refine blk_alloc ?_ _)); exact BK175.out⟩, ⟨by repeat (first | (with_reducible first | exact HB.out | apply below_alloc | apply pw_below_drewN | apply below_drew1 | refine below_set ?_ GE175.out) | exact HB.out)⟩⟩
  case rest =>
    clear HC4
    try clear c1
    try clear p2
    try clear c6
    try clear c8
    try clear c9
    try clear c9b0
    try clear c9b1
    try clear hcz10_0
    try clear hcz10_1
    try clear hcz10_2
    try clear hcz10_3
    try clear hcz12_0
    try clear hcz12_1
    try clear hcz12_2
    try clear hcz12_3
    try clear hcz6_0
    try clear hcz6_1
    try clear hcz6_2
    try clear hcz6_3
    try clear hfz10_0
    try clear hfz10_1
    try clear hfz10_2
    try clear hfz10_3
    try clear hfz12_0
    try clear hfz12_1
    try clear hfz12_2
    try clear hfz12_3
    try clear hfz6_0
    try clear hfz6_1
    try clear hfz6_2
    try clear hfz6_3
    obtain ⟨kq, x31_3, rfl, HA, HJ3, BK175, HB⟩ := hcut
    cases kq with
    | zero => exact absurd HA.out (by simp [bywashlaw8_SplitHolds.j0])
    | succ kj3 =>
      have H := HA.out
      clear HA
      simp only [bywashlaw8_SplitHolds.j0] at H
      by_cases c14 : x31_3 = true
      · subst c14
        have H1 : ((bywashlaw8_alive.f kj3).bind fun t179 => (some t179)) = some r := by rw [if_pos rfl] at H; exact H
        clear H
        have H := H1
        clear H1
        replace H := Option.bind_eq_some_iff.mp H
        obtain ⟨t179, A150, H⟩ := H
        replace H : (some t179) = some r := H
        have A15 := Aside0.mk A150
        clear A150
        obtain rfl := Option.some.inj H
        go_wp2_with (first | ((with_reducible refine gate_callee (f := 9) rfl ?_); refine goesL_ (some 32) rfl rfl Try.func9 (by kernel_rfl) rfl #[] rfl (by (try simp only [List.map_toArray, List.map_cons, List.map_nil]); first | done | rfl | (simp only [List.length_drop, List.length_take]; rfl)) ?_; (with_reducible refine (bywashlaw8_alive.calls kj3  t179 _ A15.out).mono ?_); rintro e w16 ⟨rfl, hb⟩; refine ⟨_, rfl, ?_⟩; have n0_ := Aside0.mk (blk_below (g := gb175) (o := .cells #[.int .i64 a0_0, .int .i64 a0_1, .int .i64 a0_2, .string a0_3] 28 (0, 0)) (by (with_reducible repeat (first | refine blk_drewN ?_ _ | refine blk_drew ?_ | refine blk_alloc ?_ _)); exact BK175.out) hb); have n1_ := Aside0.mk (below_step (by repeat (first | (with_reducible first | exact HB.out | apply below_alloc | apply pw_below_drewN | apply below_drew1 | refine below_set ?_ GE175.out) | exact HB.out)) hb); clear BK175; clear HB; have BK175 := n0_; have HB := n1_; clear n0_ n1_; (try clear hb); (try clear hb2); (try clear hk); (try clear hi)))
        go_ret
        exact ⟨by first | rfl | (simp [errW_none, errW_some] <;> rfl) | (simp [*, errW_none, errW_some] <;> rfl), by repeat (first | (with_reducible first | exact HB.out | apply below_alloc | apply pw_below_drewN | apply below_drew1 | refine below_set ?_ GE175.out) | exact HB.out)⟩
      · replace c14 := Bool.eq_false_iff.mpr c14
        subst c14
        have H1 : ((split_New.f 512).bind fun bt180 => (if (t176.size : Int) < 9 then (some false) else (if (t176.size : Int) = 0 then (none) else (if 0 ≤ (Int.tmod (wrap64 ((Int.tmod a1 (t176.size : Int)) + (t176.size : Int))) (t176.size : Int)) then (if (Int.tmod (wrap64 ((Int.tmod a1 (t176.size : Int)) + (t176.size : Int))) (t176.size : Int)) ≤ (t176.size : Int) then ((split_Splitter_Feed.f bt180.1 bt180.2.1 bt180.2.2 (t176.extract 0 ((Int.tmod (wrap64 ((Int.tmod a1 (t176.size : Int)) + (t176.size : Int))) (t176.size : Int)) : Int).toNat)).bind fun bt184 => (if bt184.1 = (Int.tmod (wrap64 ((Int.tmod a1 (t176.size : Int)) + (t176.size : Int))) (t176.size : Int)) then ((split_Splitter_Held.f bt184.2.1 bt184.2.2.1 bt184.2.2.2).bind fun bt188 => (bywashlaw8_SplitHolds.j1 kj3 t176 (Int.tmod (wrap64 ((Int.tmod a1 (t176.size : Int)) + (t176.size : Int))) (t176.size : Int)) (bt188.1 != (Int.tmod (wrap64 ((Int.tmod a1 (t176.size : Int)) + (t176.size : Int))) (t176.size : Int))) a0_0 a0_1 a0_2 a0_3 bt188.2.1 bt188.2.2.1 bt188.2.2.2)) else (bywashlaw8_SplitHolds.j1 kj3 t176 (Int.tmod (wrap64 ((Int.tmod a1 (t176.size : Int)) + (t176.size : Int))) (t176.size : Int)) true a0_0 a0_1 a0_2 a0_3 bt184.2.1 bt184.2.2.1 bt184.2.2.2))) else (none)) else (none))))) = some r := by rw [if_neg (show ¬ (false = true) by decide)] at H; exact H
        clear H
        have H := H1
        clear H1
        replace H := Option.bind_eq_some_iff.mp H
        obtain ⟨⟨t180, t181, t182⟩, A170, H⟩ := H
        replace H : (if (t176.size : Int) < 9 then (some false) else (if (t176.size : Int) = 0 then (none) else (if 0 ≤ (Int.tmod (wrap64 ((Int.tmod a1 (t176.size : Int)) + (t176.size : Int))) (t176.size : Int)) then (if (Int.tmod (wrap64 ((Int.tmod a1 (t176.size : Int)) + (t176.size : Int))) (t176.size : Int)) ≤ (t176.size : Int) then ((split_Splitter_Feed.f t180 t181 t182 (t176.extract 0 ((Int.tmod (wrap64 ((Int.tmod a1 (t176.size : Int)) + (t176.size : Int))) (t176.size : Int)) : Int).toNat)).bind fun bt184 => (if bt184.1 = (Int.tmod (wrap64 ((Int.tmod a1 (t176.size : Int)) + (t176.size : Int))) (t176.size : Int)) then ((split_Splitter_Held.f bt184.2.1 bt184.2.2.1 bt184.2.2.2).bind fun bt188 => (bywashlaw8_SplitHolds.j1 kj3 t176 (Int.tmod (wrap64 ((Int.tmod a1 (t176.size : Int)) + (t176.size : Int))) (t176.size : Int)) (bt188.1 != (Int.tmod (wrap64 ((Int.tmod a1 (t176.size : Int)) + (t176.size : Int))) (t176.size : Int))) a0_0 a0_1 a0_2 a0_3 bt188.2.1 bt188.2.2.1 bt188.2.2.2)) else (bywashlaw8_SplitHolds.j1 kj3 t176 (Int.tmod (wrap64 ((Int.tmod a1 (t176.size : Int)) + (t176.size : Int))) (t176.size : Int)) true a0_0 a0_1 a0_2 a0_3 bt184.2.1 bt184.2.2.1 bt184.2.2.2))) else (none)) else (none)))) = some r := H
        have A17 := Aside0.mk A170
        clear A170
        by_cases c18 : (t176.size : Int) < 9
        · rw [if_pos c18] at H
          have c18b0 : decide ((t176.size : Int) < 9) = true := decide_eq_true c18
          have c18b1 : decide (t176.size < 9) = true := decide_eq_true (by omega)
          clear c18
          obtain rfl := Option.some.inj H
          go_wp2_with (first | ((with_reducible refine gate_callee (f := 10) rfl ?_); refine goesL_ (some 33) rfl rfl Try.func10 (by kernel_rfl) rfl #[.int .i64 512] rfl (by (try simp only [List.map_toArray, List.map_cons, List.map_nil]); first | done | rfl | (simp only [List.length_drop, List.length_take]; rfl)) ?_; (with_reducible refine (split_New.calls 512 t180 t181 t182 w _ ?side1 A17.out).mono ?_); (case side1 => repeat (first | (with_reducible first | exact HB.out | apply below_alloc | apply pw_below_drewN | apply below_drew1 | refine below_set ?_ GE175.out) | exact HB.out)); rintro e w19 ⟨g183, rfl, hi, hb, hb2⟩; refine ⟨_, rfl, ?_⟩; have n0_ := Aside0.mk (blk_below (g := gb175) (o := .cells #[.int .i64 a0_0, .int .i64 a0_1, .int .i64 a0_2, .string a0_3] 28 (0, 0)) (by (with_reducible repeat (first | refine blk_drewN ?_ _ | refine blk_drew ?_ | refine blk_alloc ?_ _)); exact BK175.out) hb2); have n1_ := Aside0.mk (hb); have n2_ := Aside0.mk (hi); have n3_ := Aside0.mk (IsS49.ne_blk hi (blk_below (g := gb175) (o := .cells #[.int .i64 a0_0, .int .i64 a0_1, .int .i64 a0_2, .string a0_3] 28 (0, 0)) (by (with_reducible repeat (first | refine blk_drewN ?_ _ | refine blk_drew ?_ | refine blk_alloc ?_ _)); exact BK175.out) hb2) (by decide)); have n4_ := Aside0.mk (Ne.symm (IsS49.ne_blk hi (blk_below (g := gb175) (o := .cells #[.int .i64 a0_0, .int .i64 a0_1, .int .i64 a0_2, .string a0_3] 28 (0, 0)) (by (with_reducible repeat (first | refine blk_drewN ?_ _ | refine blk_drew ?_ | refine blk_alloc ?_ _)); exact BK175.out) hb2) (by decide))); clear BK175; clear HB; have BK175 := n0_; have HB := n1_; have HI183 := n2_; have NB183_175 := n3_; have NB175_183 := n4_; clear n0_ n1_ n2_ n3_ n4_; (try clear hb); (try clear hb2); (try clear hk); (try clear hi)))
          go_ret
          exact ⟨by first | rfl | (simp [errW_none, errW_some] <;> rfl) | (simp [*, errW_none, errW_some] <;> rfl), by repeat (first | (with_reducible first | exact HB.out | apply below_alloc | apply pw_below_drewN | apply below_drew1 | refine below_set ?_ (IsS49.ge HI183.out) | refine below_set ?_ GE175.out) | exact HB.out)⟩
        · rw [if_neg c18] at H
          have c18b0 : decide ((t176.size : Int) < 9) = false := decide_eq_false c18
          have c18b1 : decide (t176.size < 9) = false := decide_eq_false (by omega)
          clear c18
          by_cases c20 : (t176.size : Int) = 0
          · rw [if_pos c20] at H
            exact absurd H (by simp)
          · rw [if_neg c20] at H
            have c20b0 : ((t176.size : Int) == 0) = false := beq_eq_false_iff_ne.mpr c20
            have c20b1 : ((t176.size : Int) != 0) = true := bne_iff_ne.mpr c20
            have HC21 := Aside0.mk H
            clear H
            go_upto_region 8 with (first | ((with_reducible refine gate_callee (f := 10) rfl ?_); refine goesL_ (some 33) rfl rfl Try.func10 (by kernel_rfl) rfl #[.int .i64 512] rfl (by (try simp only [List.map_toArray, List.map_cons, List.map_nil]); first | done | rfl | (simp only [List.length_drop, List.length_take]; rfl)) ?_; (with_reducible refine (split_New.calls 512 t180 t181 t182 w _ ?side1 A17.out).mono ?_); (case side1 => repeat (first | (with_reducible first | exact HB.out | apply below_alloc | apply pw_below_drewN | apply below_drew1 | refine below_set ?_ GE175.out) | exact HB.out)); rintro e w22 ⟨g183, rfl, hi, hb, hb2⟩; refine ⟨_, rfl, ?_⟩; have n0_ := Aside0.mk (blk_below (g := gb175) (o := .cells #[.int .i64 a0_0, .int .i64 a0_1, .int .i64 a0_2, .string a0_3] 28 (0, 0)) (by (with_reducible repeat (first | refine blk_drewN ?_ _ | refine blk_drew ?_ | refine blk_alloc ?_ _)); exact BK175.out) hb2); have n1_ := Aside0.mk (hb); have n2_ := Aside0.mk (hi); have n3_ := Aside0.mk (IsS49.ne_blk hi (blk_below (g := gb175) (o := .cells #[.int .i64 a0_0, .int .i64 a0_1, .int .i64 a0_2, .string a0_3] 28 (0, 0)) (by (with_reducible repeat (first | refine blk_drewN ?_ _ | refine blk_drew ?_ | refine blk_alloc ?_ _)); exact BK175.out) hb2) (by decide)); have n4_ := Aside0.mk (Ne.symm (IsS49.ne_blk hi (blk_below (g := gb175) (o := .cells #[.int .i64 a0_0, .int .i64 a0_1, .int .i64 a0_2, .string a0_3] 28 (0, 0)) (by (with_reducible repeat (first | refine blk_drewN ?_ _ | refine blk_drew ?_ | refine blk_alloc ?_ _)); exact BK175.out) hb2) (by decide))); clear BK175; clear HB; have BK175 := n0_; have HB := n1_; have HI183 := n2_; have NB183_175 := n3_; have NB175_183 := n4_; clear n0_ n1_ n2_ n3_ n4_; (try clear hb); (try clear hb2); (try clear hk); (try clear hi)))
            (try simp only [Act.put, List.setIfInBounds_toArray, List.set_cons_zero, List.set_cons_succ])
            go_cut [63] (fun v63 wc => ∃ (kq : Nat) (x63_20 : Bool) (x184000_20 : ByteArray) (x184001_20 : Int) (x184002_20 : Bool), v63 = .bool x63_20 ∧ Aside0 (bywashlaw8_SplitHolds.j1 kq t176 (Int.tmod (wrap64 ((Int.tmod a1 (t176.size : Int)) + (t176.size : Int))) (t176.size : Int)) x63_20 a0_0 a0_1 a0_2 a0_3 x184000_20 x184001_20 x184002_20 = some r) ∧ Aside0 (kq ≤ kj3) ∧ Aside0 (wc.heap[gb175]? = some (.cells #[.int .i64 a0_0, .int .i64 a0_1, .int .i64 a0_2, .string a0_3] 28 (0, 0))) ∧ Aside0 (IsS49 w wc g183 x184000_20 x184001_20 x184002_20) ∧ Aside0 (Below w.heap.size w wc))
            case first =>
              have H := HC21.out
              clear HC21
              obtain ⟨ji23, hji23⟩ : ∃ j_ : Int, (Int.tmod (wrap64 ((Int.tmod a1 (t176.size : Int)) + (t176.size : Int))) (t176.size : Int)) = j_ := ⟨_, rfl⟩
              replace H : (if 0 ≤ (ji23) then (if (ji23) ≤ (t176.size : Int) then ((split_Splitter_Feed.f t180 t181 t182 (t176.extract 0 ((ji23) : Int).toNat)).bind fun bt184 => (if bt184.1 = (ji23) then ((split_Splitter_Held.f bt184.2.1 bt184.2.2.1 bt184.2.2.2).bind fun bt188 => (bywashlaw8_SplitHolds.j1 kj3 t176 ji23 (bt188.1 != (ji23)) a0_0 a0_1 a0_2 a0_3 bt188.2.1 bt188.2.2.1 bt188.2.2.2)) else (bywashlaw8_SplitHolds.j1 kj3 t176 ji23 true a0_0 a0_1 a0_2 a0_3 bt184.2.1 bt184.2.2.1 bt184.2.2.2))) else (none)) else (none)) = some r := by first | (rw [hji23] at H; exact H) | (simp only [hji23] at H ⊢; exact H)
              by_cases c24 : 0 ≤ (ji23)
              · rw [if_pos c24] at H
                have c24b0 := eq_true c24
                have c24b1 : decide (0 ≤ (ji23)) = true := decide_eq_true c24
                clear c24
                by_cases c25 : (ji23) ≤ (t176.size : Int)
                · rw [if_pos c25] at H
                  have c25b0 := eq_true c25
                  have c25b1 : decide ((ji23) ≤ (t176.size : Int)) = true := decide_eq_true c25
                  clear c25
                  replace H := Option.bind_eq_some_iff.mp H
                  obtain ⟨⟨t184, t185, t186, t187⟩, A260, H⟩ := H
                  replace H : (if t184 = (ji23) then ((split_Splitter_Held.f t185 t186 t187).bind fun bt188 => (bywashlaw8_SplitHolds.j1 kj3 t176 ji23 (bt188.1 != (ji23)) a0_0 a0_1 a0_2 a0_3 bt188.2.1 bt188.2.2.1 bt188.2.2.2)) else (bywashlaw8_SplitHolds.j1 kj3 t176 ji23 true a0_0 a0_1 a0_2 a0_3 t185 t186 t187)) = some r := H
                  have A26 := Aside0.mk A260
                  clear A260
                  by_cases c27 : t184 = (ji23)
                  · rw [if_pos c27] at H
                    have c27b0 : (t184 == (ji23)) = true := beq_iff_eq.mpr c27
                    have c27b1 : (t184 != (ji23)) = false := bne_eq_false_iff_eq.mpr c27
                    clear c27
                    (first | rw [c27b0] | (simp only [i64_w, i32_w]; rw [c27b0]) | skip)
                    replace H := Option.bind_eq_some_iff.mp H
                    obtain ⟨⟨t188, t189, t190, t191⟩, A280, H⟩ := H
                    replace H : (bywashlaw8_SplitHolds.j1 kj3 t176 ji23 (t188 != (ji23)) a0_0 a0_1 a0_2 a0_3 t189 t190 t191) = some r := H
                    have A28 := Aside0.mk A280
                    clear A280
                    have H' := Aside0.mk H
                    clear H
                    go_wp2_with (first | ((with_reducible refine gate_callee (f := 12) rfl ?_); refine goesL_ (some 55) rfl rfl Try.func12 (by kernel_rfl) rfl #[.pointer (some ⟨g183, 0, none⟩), .string (t176.extract 0 ((ji23) : Int).toNat)] rfl (by (try simp only [List.map_toArray, List.map_cons, List.map_nil]); first | done | (simp only [hji23]; rfl) | rfl | (simp only [List.length_drop, List.length_take]; rfl)) ?_; (with_reducible refine (split_Splitter_Feed.calls g183 t180 t181 t182 (t176.extract 0 ((ji23) : Int).toNat) t184 t185 t186 t187 w _ ?side1 ?side2 A26.out).mono ?_); (case side1 => repeat (first | (with_reducible first | exact HI183.out | apply IsS49.alloc | apply IsS49.drewN | apply IsS49.drew | apply IsS49.set_0 | apply IsS49.set_1 | apply IsS49.set_2 | refine IsS49.far ?_ NB183_175.out _) | exact HI183.out)); (case side2 => repeat (first | (with_reducible first | exact HB.out | apply below_alloc | apply pw_below_drewN | apply below_drew1 | refine below_set ?_ (IsS49.ge HI183.out) | refine below_set ?_ GE175.out) | exact HB.out)); rintro e w29 ⟨rfl, hi, hb, hk⟩; refine ⟨_, rfl, ?_⟩; have n0_ := Aside0.mk (KeepBut.blk hk (g' := gb175) (o := .cells #[.int .i64 a0_0, .int .i64 a0_1, .int .i64 a0_2, .string a0_3] 28 (0, 0)) (by (with_reducible repeat (first | refine blk_drewN ?_ _ | refine blk_drew ?_ | refine blk_alloc ?_ _)); exact BK175.out) NB175_183.out (by simp)); have n1_ := Aside0.mk (hb); have n2_ := Aside0.mk (hi); clear BK175; clear HB; clear HI183; have BK175 := n0_; have HB := n1_; have HI183 := n2_; clear n0_ n1_ n2_; (try clear hb); (try clear hb2); (try clear hk); (try clear hi)) | (go_at_call 13; (with_reducible refine (split_Splitter_Held.calls g183 t185 t186 t187 t188 t189 t190 t191 w _ ?side1 ?side2 A28.out).mono ?_); (case side1 => repeat (first | (with_reducible first | exact HI183.out | apply IsS49.alloc | apply IsS49.drewN | apply IsS49.drew | apply IsS49.set_0 | apply IsS49.set_1 | apply IsS49.set_2 | refine IsS49.far ?_ NB183_175.out _) | exact HI183.out)); (case side2 => repeat (first | (with_reducible first | exact HB.out | apply below_alloc | apply pw_below_drewN | apply below_drew1 | refine below_set ?_ (IsS49.ge HI183.out) | refine below_set ?_ GE175.out) | exact HB.out)); rintro e w30 ⟨rfl, hi, hb, hk⟩; have n0_ := Aside0.mk (KeepBut.blk hk (g' := gb175) (o := .cells #[.int .i64 a0_0, .int .i64 a0_1, .int .i64 a0_2, .string a0_3] 28 (0, 0)) (by (with_reducible repeat (first | refine blk_drewN ?_ _ | refine blk_drew ?_ | refine blk_alloc ?_ _)); exact BK175.out) NB175_183.out (by simp)); have n1_ := Aside0.mk (hb); have n2_ := Aside0.mk (hi); clear BK175; clear HB; clear HI183; have BK175 := n0_; have HB := n1_; have HI183 := n2_; clear n0_ n1_ n2_; (try clear hb); (try clear hb2); (try clear hk); (try clear hi)))
                    subst hji23
                    go_meet
                    case rel => exact ⟨_, ((t188 != (((Int.tmod (wrap64 ((Int.tmod a1 (t176.size : Int)) + (t176.size : Int))) (t176.size : Int)))))), (t189), (t190), (t191), (by first | rfl | (simp; done) | (simp [*]; done)), H', ⟨by have := HJ3.out; first | omega | exact Nat.le_refl _⟩, ⟨by (with_reducible repeat (first | refine blk_drewN ?_ _ | refine blk_drew ?_ | refine blk_alloc ?_ _)); exact BK175.out⟩, ⟨by repeat (first | (with_reducible first | exact HI183.out | apply IsS49.alloc | apply IsS49.drewN | apply IsS49.drew | apply IsS49.set_0 | apply IsS49.set_1 | apply IsS49.set_2 | refine IsS49.far ?_ NB183_175.out _) | exact HI183.out)⟩, ⟨by repeat (first | (with_reducible first | exact HB.out | apply below_alloc | apply pw_below_drewN | apply below_drew1 | refine below_set ?_ (IsS49.ge HI183.out) | refine below_set ?_ GE175.out) | exact HB.out)⟩⟩
                  · rw [if_neg c27] at H
                    have c27b0 : (t184 == (ji23)) = false := beq_eq_false_iff_ne.mpr c27
                    have c27b1 : (t184 != (ji23)) = true := bne_iff_ne.mpr c27
                    (first | rw [c27b0] | (simp only [i64_w, i32_w]; rw [c27b0]) | skip)
                    have H' := Aside0.mk H
                    clear H
                    go_wp2_with (first | ((with_reducible refine gate_callee (f := 12) rfl ?_); refine goesL_ (some 55) rfl rfl Try.func12 (by kernel_rfl) rfl #[.pointer (some ⟨g183, 0, none⟩), .string (t176.extract 0 ((ji23) : Int).toNat)] rfl (by (try simp only [List.map_toArray, List.map_cons, List.map_nil]); first | done | (simp only [hji23]; rfl) | rfl | (simp only [List.length_drop, List.length_take]; rfl)) ?_; (with_reducible refine (split_Splitter_Feed.calls g183 t180 t181 t182 (t176.extract 0 ((ji23) : Int).toNat) t184 t185 t186 t187 w _ ?side1 ?side2 A26.out).mono ?_); (case side1 => repeat (first | (with_reducible first | exact HI183.out | apply IsS49.alloc | apply IsS49.drewN | apply IsS49.drew | apply IsS49.set_0 | apply IsS49.set_1 | apply IsS49.set_2 | refine IsS49.far ?_ NB183_175.out _) | exact HI183.out)); (case side2 => repeat (first | (with_reducible first | exact HB.out | apply below_alloc | apply pw_below_drewN | apply below_drew1 | refine below_set ?_ (IsS49.ge HI183.out) | refine below_set ?_ GE175.out) | exact HB.out)); rintro e w31 ⟨rfl, hi, hb, hk⟩; refine ⟨_, rfl, ?_⟩; have n0_ := Aside0.mk (KeepBut.blk hk (g' := gb175) (o := .cells #[.int .i64 a0_0, .int .i64 a0_1, .int .i64 a0_2, .string a0_3] 28 (0, 0)) (by (with_reducible repeat (first | refine blk_drewN ?_ _ | refine blk_drew ?_ | refine blk_alloc ?_ _)); exact BK175.out) NB175_183.out (by simp)); have n1_ := Aside0.mk (hb); have n2_ := Aside0.mk (hi); clear BK175; clear HB; clear HI183; have BK175 := n0_; have HB := n1_; have HI183 := n2_; clear n0_ n1_ n2_; (try clear hb); (try clear hb2); (try clear hk); (try clear hi)))
                    subst hji23
                    go_meet
                    case rel => exact ⟨_, (true), (t185), (t186), (t187), (by first | rfl | (simp; done) | (simp [*]; done)), H', ⟨by have := HJ3.out; first | omega | exact Nat.le_refl _⟩, ⟨by (with_reducible repeat (first | refine blk_drewN ?_ _ | refine blk_drew ?_ | refine blk_alloc ?_ _)); exact BK175.out⟩, ⟨by repeat (first | (with_reducible first | exact HI183.out | apply IsS49.alloc | apply IsS49.drewN | apply IsS49.drew | apply IsS49.set_0 | apply IsS49.set_1 | apply IsS49.set_2 | refine IsS49.far ?_ NB183_175.out _) | exact HI183.out)⟩, ⟨by repeat (first | (with_reducible first | exact HB.out | apply below_alloc | apply pw_below_drewN | apply below_drew1 | refine below_set ?_ (IsS49.ge HI183.out) | refine below_set ?_ GE175.out) | exact HB.out)⟩⟩
                · rw [if_neg c25] at H
                  exact absurd H (by simp)
              · rw [if_neg c24] at H
                exact absurd H (by simp)
            case rest =>
              clear HC21
              try clear c1
              try clear c2
              try clear p2
              try clear c6
              try clear p6
              try clear c8
              try clear c9
              try clear c9b0
              try clear c9b1
              try clear c10
              try clear c12
              try clear c14
              try clear c16
              try clear c18
              try clear c18b0
              try clear c18b1
              try clear c20
              try clear c20b0
              try clear c20b1
              try clear c24
              try clear c24b0
              try clear c24b1
              try clear c25
              try clear c25b0
              try clear c25b1
              try clear c27
              try clear c27b0
              try clear c27b1
              try clear hcz10_0
              try clear hcz10_1
              try clear hcz10_2
              try clear hcz10_3
              try clear hcz12_0
              try clear hcz12_1
              try clear hcz12_2
              try clear hcz12_3
              try clear hcz6_0
              try clear hcz6_1
              try clear hcz6_2
              try clear hcz6_3
              try clear hfz10_0
              try clear hfz10_1
              try clear hfz10_2
              try clear hfz10_3
              try clear hfz12_0
              try clear hfz12_1
              try clear hfz12_2
              try clear hfz12_3
              try clear hfz6_0
              try clear hfz6_1
              try clear hfz6_2
              try clear hfz6_3
              try clear p2
              obtain ⟨kq, x63_20, x184000_20, x184001_20, x184002_20, rfl, HA, HJ20, BK175, HI183, HB⟩ := hcut
              cases kq with
              | zero => exact absurd HA.out (by simp [bywashlaw8_SplitHolds.j1])
              | succ kj20 =>
                have H := HA.out
                clear HA
                simp only [bywashlaw8_SplitHolds.j1] at H
                by_cases c32 : x63_20 = true
                · subst c32
                  have H1 : (some false) = some r := by rw [if_pos rfl] at H; exact H
                  clear H
                  have H := H1
                  clear H1
                  obtain rfl := Option.some.inj H
                  go_wp2
                  go_ret
                  exact ⟨by first | rfl | (simp [errW_none, errW_some] <;> rfl) | (simp [*, errW_none, errW_some] <;> rfl), by repeat (first | (with_reducible first | exact HB.out | apply below_alloc | apply pw_below_drewN | apply below_drew1 | refine below_set ?_ (IsS49.ge HI183.out) | refine below_set ?_ GE175.out) | exact HB.out)⟩
                · replace c32 := Bool.eq_false_iff.mpr c32
                  subst c32
                  have H1 : ((split_Splitter_Next.f kj20 x184000_20 x184001_20 x184002_20).bind fun bt192 => (if bt192.2.2.2.2.1 = true then (bywashlaw8_SplitHolds.j2 kj20 true a0_0 a0_1 a0_2 a0_3 bt192.2.2.2.2.2.2.1 bt192.2.2.2.2.2.2.2.1 bt192.2.2.2.2.2.2.2.2) else (if bt192.2.2.2.2.2.1 = 0 then ((split_Splitter_Held.f bt192.2.2.2.2.2.2.1 bt192.2.2.2.2.2.2.2.1 bt192.2.2.2.2.2.2.2.2).bind fun bt202 => (if bt202.1 = (Int.tmod (wrap64 ((Int.tmod a1 (t176.size : Int)) + (t176.size : Int))) (t176.size : Int)) then (if 0 ≤ (Int.tmod (wrap64 ((Int.tmod a1 (t176.size : Int)) + (t176.size : Int))) (t176.size : Int)) then (if (Int.tmod (wrap64 ((Int.tmod a1 (t176.size : Int)) + (t176.size : Int))) (t176.size : Int)) ≤ (t176.size : Int) then ((split_Splitter_Feed.f bt202.2.1 bt202.2.2.1 bt202.2.2.2 (t176.extract ((Int.tmod (wrap64 ((Int.tmod a1 (t176.size : Int)) + (t176.size : Int))) (t176.size : Int)) : Int).toNat t176.size)).bind fun bt206 => (bywashlaw8_SplitHolds.j2 kj20 (bt206.1 != (wrap64 ((t176.size : Int) - (Int.tmod (wrap64 ((Int.tmod a1 (t176.size : Int)) + (t176.size : Int))) (t176.size : Int))))) a0_0 a0_1 a0_2 a0_3 bt206.2.1 bt206.2.2.1 bt206.2.2.2)) else (none)) else (none)) else (bywashlaw8_SplitHolds.j2 kj20 true a0_0 a0_1 a0_2 a0_3 bt202.2.1 bt202.2.2.1 bt202.2.2.2))) else (bywashlaw8_SplitHolds.j2 kj20 true a0_0 a0_1 a0_2 a0_3 bt192.2.2.2.2.2.2.1 bt192.2.2.2.2.2.2.2.1 bt192.2.2.2.2.2.2.2.2)))) = some r := by rw [if_neg (show ¬ (false = true) by decide)] at H; exact H
                  clear H
                  have H := H1
                  clear H1
                  replace H := Option.bind_eq_some_iff.mp H
                  obtain ⟨⟨t192, t193, t194, t195, t196, t197, t198, t199, t200⟩, A330, H⟩ := H
                  replace H : (if t196 = true then (bywashlaw8_SplitHolds.j2 kj20 true a0_0 a0_1 a0_2 a0_3 t198 t199 t200) else (if t197 = 0 then ((split_Splitter_Held.f t198 t199 t200).bind fun bt202 => (if bt202.1 = (Int.tmod (wrap64 ((Int.tmod a1 (t176.size : Int)) + (t176.size : Int))) (t176.size : Int)) then (if 0 ≤ (Int.tmod (wrap64 ((Int.tmod a1 (t176.size : Int)) + (t176.size : Int))) (t176.size : Int)) then (if (Int.tmod (wrap64 ((Int.tmod a1 (t176.size : Int)) + (t176.size : Int))) (t176.size : Int)) ≤ (t176.size : Int) then ((split_Splitter_Feed.f bt202.2.1 bt202.2.2.1 bt202.2.2.2 (t176.extract ((Int.tmod (wrap64 ((Int.tmod a1 (t176.size : Int)) + (t176.size : Int))) (t176.size : Int)) : Int).toNat t176.size)).bind fun bt206 => (bywashlaw8_SplitHolds.j2 kj20 (bt206.1 != (wrap64 ((t176.size : Int) - (Int.tmod (wrap64 ((Int.tmod a1 (t176.size : Int)) + (t176.size : Int))) (t176.size : Int))))) a0_0 a0_1 a0_2 a0_3 bt206.2.1 bt206.2.2.1 bt206.2.2.2)) else (none)) else (none)) else (bywashlaw8_SplitHolds.j2 kj20 true a0_0 a0_1 a0_2 a0_3 bt202.2.1 bt202.2.2.1 bt202.2.2.2))) else (bywashlaw8_SplitHolds.j2 kj20 true a0_0 a0_1 a0_2 a0_3 t198 t199 t200))) = some r := H
                  have A33 := Aside0.mk A330
                  clear A330
                  have HC34 := Aside0.mk H
                  clear H
                  go_upto_region 11 with (first | ((with_reducible refine gate_callee (f := 11) rfl ?_); refine goesL_ (some 66) rfl rfl Try.func11 (by kernel_rfl) rfl #[.pointer (some ⟨g183, 0, none⟩)] rfl (by (try simp only [List.map_toArray, List.map_cons, List.map_nil]); first | done | rfl | (simp only [List.length_drop, List.length_take]; rfl)) ?_; (with_reducible refine (split_Splitter_Next.calls kj20 g183 x184000_20 x184001_20 x184002_20 t192 t193 t194 t195 t196 t197 t198 t199 t200 w _ ?side1 ?side2 A33.out).mono ?_); (case side1 => repeat (first | (with_reducible first | exact HI183.out | apply IsS49.alloc | apply IsS49.drewN | apply IsS49.drew | apply IsS49.set_0 | apply IsS49.set_1 | apply IsS49.set_2 | refine IsS49.far ?_ NB183_175.out _) | exact HI183.out)); (case side2 => repeat (first | (with_reducible first | exact HB.out | apply below_alloc | apply pw_below_drewN | apply below_drew1 | refine below_set ?_ (IsS49.ge HI183.out) | refine below_set ?_ GE175.out) | exact HB.out)); rintro e w35 ⟨rfl, hi, hb, hk⟩; refine ⟨_, rfl, ?_⟩; have n0_ := Aside0.mk (KeepBut.blk hk (g' := gb175) (o := .cells #[.int .i64 a0_0, .int .i64 a0_1, .int .i64 a0_2, .string a0_3] 28 (0, 0)) (by (with_reducible repeat (first | refine blk_drewN ?_ _ | refine blk_drew ?_ | refine blk_alloc ?_ _)); exact BK175.out) NB175_183.out (by simp)); have n1_ := Aside0.mk (hb); have n2_ := Aside0.mk (hi); clear BK175; clear HB; clear HI183; have BK175 := n0_; have HB := n1_; have HI183 := n2_; clear n0_ n1_ n2_; (try clear hb); (try clear hb2); (try clear hk); (try clear hi)) | ((with_reducible refine gate_dst (N := 9) rfl ?_); (try (refine gate_guard (by rfl) ?_; dsimp only)); refine box_event ?hg (N := 9) ?hd (cs := #[.int .i64 0, .int .i64 0, .int .i64 0, .string (⟨#[]⟩ : ByteArray)]) (t := 28) ?hr ?_; (case hd => rfl); (case hg => rfl); (case hr => first | (go_simp; done) | (go_simp; rfl)); intro gb201 hg w36 hbox hb; have n0_ := Aside0.mk (blk_below (g := gb175) (o := .cells #[.int .i64 a0_0, .int .i64 a0_1, .int .i64 a0_2, .string a0_3] 28 (0, 0)) (by (with_reducible repeat (first | refine blk_drewN ?_ _ | refine blk_drew ?_ | refine blk_alloc ?_ _)); exact BK175.out) hb); have n1_ := Aside0.mk (IsS49.below (by repeat (first | (with_reducible first | exact HI183.out | apply IsS49.alloc | apply IsS49.drewN | apply IsS49.drew | apply IsS49.set_0 | apply IsS49.set_1 | apply IsS49.set_2 | refine IsS49.far ?_ NB183_175.out _) | exact HI183.out)) hb); have n2_ := Aside0.mk (below_step (by repeat (first | (with_reducible first | exact HB.out | apply below_alloc | apply pw_below_drewN | apply below_drew1 | refine below_set ?_ (IsS49.ge HI183.out) | refine below_set ?_ GE175.out) | exact HB.out)) hb); have n3_ := Aside0.mk (hbox); have n4_ := Aside0.mk ((by rw [hg]; exact (below_size (by repeat (first | (with_reducible first | exact HB.out | apply below_alloc | apply pw_below_drewN | apply below_drew1 | refine below_set ?_ (IsS49.ge HI183.out) | refine below_set ?_ GE175.out) | exact HB.out))) : w.heap.size ≤ gb201)); have n5_ := Aside0.mk ((by rw [hg]; exact (below_size (by repeat (first | (with_reducible first | exact HB.out | apply below_alloc | apply pw_below_drewN | apply below_drew1 | refine below_set ?_ (IsS49.ge HI183.out) | refine below_set ?_ GE175.out) | exact HB.out))) : w.heap.size ≤ gb201)); have n6_ := Aside0.mk ((by rw [hg]; exact Nat.ne_of_lt (blk_lt (g := gb175) (o := .cells #[.int .i64 a0_0, .int .i64 a0_1, .int .i64 a0_2, .string a0_3] 28 (0, 0)) (by (with_reducible repeat (first | refine blk_drewN ?_ _ | refine blk_drew ?_ | refine blk_alloc ?_ _)); exact BK175.out)) : gb175 ≠ gb201)); have n7_ := Aside0.mk ((by rw [hg]; exact Nat.ne_of_gt (blk_lt (g := gb175) (o := .cells #[.int .i64 a0_0, .int .i64 a0_1, .int .i64 a0_2, .string a0_3] 28 (0, 0)) (by (with_reducible repeat (first | refine blk_drewN ?_ _ | refine blk_drew ?_ | refine blk_alloc ?_ _)); exact BK175.out)) : gb201 ≠ gb175)); have n8_ := Aside0.mk ((by rw [hg]; exact Nat.ne_of_lt (IsS49.lt (show IsS49 w _ g183 t198 t199 t200 from by repeat (first | (with_reducible first | exact HI183.out | apply IsS49.alloc | apply IsS49.drewN | apply IsS49.drew | apply IsS49.set_0 | apply IsS49.set_1 | apply IsS49.set_2 | refine IsS49.far ?_ NB183_175.out _) | exact HI183.out))) : g183 ≠ gb201)); have n9_ := Aside0.mk ((by rw [hg]; exact Nat.ne_of_gt (IsS49.lt (show IsS49 w _ g183 t198 t199 t200 from by repeat (first | (with_reducible first | exact HI183.out | apply IsS49.alloc | apply IsS49.drewN | apply IsS49.drew | apply IsS49.set_0 | apply IsS49.set_1 | apply IsS49.set_2 | refine IsS49.far ?_ NB183_175.out _) | exact HI183.out))) : gb201 ≠ g183)); clear BK175; clear HI183; clear HB; have BK175 := n0_; have HI183 := n1_; have HB := n2_; have BK201 := n3_; have GW201 := n4_; have GE201 := n5_; have NB175_201 := n6_; have NB201_175 := n7_; have NB183_201 := n8_; have NB201_183 := n9_; clear n0_ n1_ n2_ n3_ n4_ n5_ n6_ n7_ n8_ n9_; clear hb hbox hg; have hnb37 := NB201_175.out; have hnc37 := NB175_201.out; have hnb38 := NB201_183.out; have hnc38 := NB183_201.out; have hcz39_0 : w36.cell? ⟨gb201, 0, none⟩ = some (.int .i64 0) := (blk_cell BK201.out 0).trans rfl; have hcz39_1 : w36.cell? ⟨gb201, 1, none⟩ = some (.int .i64 0) := (blk_cell BK201.out 1).trans rfl; have hcz39_2 : w36.cell? ⟨gb201, 2, none⟩ = some (.int .i64 0) := (blk_cell BK201.out 2).trans rfl; have hcz39_3 : w36.cell? ⟨gb201, 3, none⟩ = some (.string (⟨#[]⟩ : ByteArray)) := (blk_cell BK201.out 3).trans rfl; have hfz39_0 := blk_frozen BK201.out 0; have hfz39_1 := blk_frozen BK201.out 1; have hfz39_2 := blk_frozen BK201.out 2; have hfz39_3 := blk_frozen BK201.out 3))
                  (try simp only [Act.put, List.setIfInBounds_toArray, List.set_cons_zero, List.set_cons_succ])
                  go_cut [92] (fun v92 wc => ∃ (kq : Nat) (x92_33 : Bool) (x184000_33 : ByteArray) (x184001_33 : Int) (x184002_33 : Bool), v92 = .bool x92_33 ∧ Aside0 (bywashlaw8_SplitHolds.j2 kq x92_33 a0_0 a0_1 a0_2 a0_3 x184000_33 x184001_33 x184002_33 = some r) ∧ Aside0 (kq ≤ kj20) ∧ Aside0 (wc.heap[gb175]? = some (.cells #[.int .i64 a0_0, .int .i64 a0_1, .int .i64 a0_2, .string a0_3] 28 (0, 0))) ∧ Aside0 (wc.heap[gb201]? = some (.cells #[.int .i64 t192, .int .i64 t193, .int .i64 t194, .string t195] 28 (0, 0))) ∧ Aside0 (IsS49 w wc g183 x184000_33 x184001_33 x184002_33) ∧ Aside0 (Below w.heap.size w wc))
                  case first =>
                    have H := HC34.out
                    clear HC34
                    by_cases c40 : t196 = true
                    · subst c40
                      have H1 : (bywashlaw8_SplitHolds.j2 kj20 true a0_0 a0_1 a0_2 a0_3 t198 t199 t200) = some r := by rw [if_pos rfl] at H; exact H
                      clear H
                      have H := H1
                      clear H1
                      have H' := Aside0.mk H
                      clear H
                      go_wp2
                      go_meet
                      case rel => exact ⟨_, (true), (t198), (t199), (t200), (by first | rfl | (simp; done) | (simp [*]; done)), H', ⟨by have := HJ3.out; have := HJ20.out; first | omega | exact Nat.le_refl _⟩, ⟨by (with_reducible repeat (first | refine blk_drewN ?_ _ | refine blk_drew ?_ | refine blk_alloc ?_ _)); refine blk_far ?_ NB175_201.out _; (with_reducible repeat (first | refine blk_drewN ?_ _ | refine blk_drew ?_ | refine blk_alloc ?_ _)); refine blk_far ?_ NB175_201.out _; (with_reducible repeat (first | refine blk_drewN ?_ _ | refine blk_drew ?_ | refine blk_alloc ?_ _)); refine blk_far ?_ NB175_201.out _; (with_reducible repeat (first | refine blk_drewN ?_ _ | refine blk_drew ?_ | refine blk_alloc ?_ _)); refine blk_far ?_ NB175_201.out _; (with_reducible repeat (first | refine blk_drewN ?_ _ | refine blk_drew ?_ | refine blk_alloc ?_ _)); exact BK175.out⟩, ⟨by (with_reducible repeat (first | refine blk_drewN ?_ _ | refine blk_drew ?_ | refine blk_alloc ?_ _)); refine blk_put (cs := #[.int .i64 t192, .int .i64 t193, .int .i64 t194, .string (⟨#[]⟩ : ByteArray)]) ?_ 3 _ rfl; (with_reducible repeat (first | refine blk_drewN ?_ _ | refine blk_drew ?_ | refine blk_alloc ?_ _)); refine blk_put (cs := #[.int .i64 t192, .int .i64 t193, .int .i64 0, .string (⟨#[]⟩ : ByteArray)]) ?_ 2 _ rfl; (with_reducible repeat (first | refine blk_drewN ?_ _ | refine blk_drew ?_ | refine blk_alloc ?_ _)); refine blk_put (cs := #[.int .i64 t192, .int .i64 0, .int .i64 0, .string (⟨#[]⟩ : ByteArray)]) ?_ 1 _ rfl; (with_reducible repeat (first | refine blk_drewN ?_ _ | refine blk_drew ?_ | refine blk_alloc ?_ _)); refine blk_put (cs := #[.int .i64 0, .int .i64 0, .int .i64 0, .string (⟨#[]⟩ : ByteArray)]) ?_ 0 _ rfl; (with_reducible repeat (first | refine blk_drewN ?_ _ | refine blk_drew ?_ | refine blk_alloc ?_ _)); exact BK201.out⟩, ⟨by repeat (first | (with_reducible first | exact HI183.out | apply IsS49.alloc | apply IsS49.drewN | apply IsS49.drew | apply IsS49.set_0 | apply IsS49.set_1 | apply IsS49.set_2 | refine IsS49.far ?_ NB183_175.out _ | refine IsS49.far ?_ NB183_201.out _) | exact HI183.out)⟩, ⟨by repeat (first | (with_reducible first | exact HB.out | apply below_alloc | apply pw_below_drewN | apply below_drew1 | refine below_set ?_ (IsS49.ge HI183.out) | refine below_set ?_ GE175.out | refine below_set ?_ GE201.out) | exact HB.out)⟩⟩
                    · replace c40 := Bool.eq_false_iff.mpr c40
                      subst c40
                      have H1 : (if t197 = 0 then ((split_Splitter_Held.f t198 t199 t200).bind fun bt202 => (if bt202.1 = (Int.tmod (wrap64 ((Int.tmod a1 (t176.size : Int)) + (t176.size : Int))) (t176.size : Int)) then (if 0 ≤ (Int.tmod (wrap64 ((Int.tmod a1 (t176.size : Int)) + (t176.size : Int))) (t176.size : Int)) then (if (Int.tmod (wrap64 ((Int.tmod a1 (t176.size : Int)) + (t176.size : Int))) (t176.size : Int)) ≤ (t176.size : Int) then ((split_Splitter_Feed.f bt202.2.1 bt202.2.2.1 bt202.2.2.2 (t176.extract ((Int.tmod (wrap64 ((Int.tmod a1 (t176.size : Int)) + (t176.size : Int))) (t176.size : Int)) : Int).toNat t176.size)).bind fun bt206 => (bywashlaw8_SplitHolds.j2 kj20 (bt206.1 != (wrap64 ((t176.size : Int) - (Int.tmod (wrap64 ((Int.tmod a1 (t176.size : Int)) + (t176.size : Int))) (t176.size : Int))))) a0_0 a0_1 a0_2 a0_3 bt206.2.1 bt206.2.2.1 bt206.2.2.2)) else (none)) else (none)) else (bywashlaw8_SplitHolds.j2 kj20 true a0_0 a0_1 a0_2 a0_3 bt202.2.1 bt202.2.2.1 bt202.2.2.2))) else (bywashlaw8_SplitHolds.j2 kj20 true a0_0 a0_1 a0_2 a0_3 t198 t199 t200)) = some r := by rw [if_neg (show ¬ (false = true) by decide)] at H; exact H
                      clear H
                      have H := H1
                      clear H1
                      by_cases c41 : t197 = 0
                      · rw [if_pos c41] at H
                        have c41b0 : (t197 == 0) = true := beq_iff_eq.mpr c41
                        have c41b1 : (t197 != 0) = false := bne_eq_false_iff_eq.mpr c41
                        clear c41
                        (first | rw [c41b0] | (simp only [i64_w, i32_w]; rw [c41b0]) | skip)
                        replace H := Option.bind_eq_some_iff.mp H
                        obtain ⟨⟨t202, t203, t204, t205⟩, A420, H⟩ := H
                        replace H : (if t202 = (Int.tmod (wrap64 ((Int.tmod a1 (t176.size : Int)) + (t176.size : Int))) (t176.size : Int)) then (if 0 ≤ (Int.tmod (wrap64 ((Int.tmod a1 (t176.size : Int)) + (t176.size : Int))) (t176.size : Int)) then (if (Int.tmod (wrap64 ((Int.tmod a1 (t176.size : Int)) + (t176.size : Int))) (t176.size : Int)) ≤ (t176.size : Int) then ((split_Splitter_Feed.f t203 t204 t205 (t176.extract ((Int.tmod (wrap64 ((Int.tmod a1 (t176.size : Int)) + (t176.size : Int))) (t176.size : Int)) : Int).toNat t176.size)).bind fun bt206 => (bywashlaw8_SplitHolds.j2 kj20 (bt206.1 != (wrap64 ((t176.size : Int) - (Int.tmod (wrap64 ((Int.tmod a1 (t176.size : Int)) + (t176.size : Int))) (t176.size : Int))))) a0_0 a0_1 a0_2 a0_3 bt206.2.1 bt206.2.2.1 bt206.2.2.2)) else (none)) else (none)) else (bywashlaw8_SplitHolds.j2 kj20 true a0_0 a0_1 a0_2 a0_3 t203 t204 t205)) = some r := H
                        have A42 := Aside0.mk A420
                        clear A420
                        by_cases c43 : t202 = (Int.tmod (wrap64 ((Int.tmod a1 (t176.size : Int)) + (t176.size : Int))) (t176.size : Int))
                        · rw [if_pos c43] at H
                          have c43b0 : (t202 == (Int.tmod (wrap64 ((Int.tmod a1 (t176.size : Int)) + (t176.size : Int))) (t176.size : Int))) = true := beq_iff_eq.mpr c43
                          have c43b1 : (t202 != (Int.tmod (wrap64 ((Int.tmod a1 (t176.size : Int)) + (t176.size : Int))) (t176.size : Int))) = false := bne_eq_false_iff_eq.mpr c43
                          clear c43
                          obtain ⟨ji44, hji44⟩ : ∃ j_ : Int, (Int.tmod (wrap64 ((Int.tmod a1 (t176.size : Int)) + (t176.size : Int))) (t176.size : Int)) = j_ := ⟨_, rfl⟩
                          replace H : (if 0 ≤ (ji44) then (if (ji44) ≤ (t176.size : Int) then ((split_Splitter_Feed.f t203 t204 t205 (t176.extract ((ji44) : Int).toNat t176.size)).bind fun bt206 => (bywashlaw8_SplitHolds.j2 kj20 (bt206.1 != (wrap64 ((t176.size : Int) - (ji44)))) a0_0 a0_1 a0_2 a0_3 bt206.2.1 bt206.2.2.1 bt206.2.2.2)) else (none)) else (none)) = some r := by first | (rw [hji44] at H; exact H) | (simp only [hji44] at H ⊢; exact H)
                          (try rw [hji44] at c43b0)
                          (try rw [hji44] at c43b1)
                          (try rw [hji44] at A42)
                          by_cases c45 : 0 ≤ (ji44)
                          · rw [if_pos c45] at H
                            have c45b0 := eq_true c45
                            have c45b1 : decide (0 ≤ (ji44)) = true := decide_eq_true c45
                            clear c45
                            by_cases c46 : (ji44) ≤ (t176.size : Int)
                            · rw [if_pos c46] at H
                              have c46b0 := eq_true c46
                              have c46b1 : decide ((ji44) ≤ (t176.size : Int)) = true := decide_eq_true c46
                              clear c46
                              replace H := Option.bind_eq_some_iff.mp H
                              obtain ⟨⟨t206, t207, t208, t209⟩, A470, H⟩ := H
                              replace H : (bywashlaw8_SplitHolds.j2 kj20 (t206 != (wrap64 ((t176.size : Int) - (ji44)))) a0_0 a0_1 a0_2 a0_3 t207 t208 t209) = some r := H
                              have A47 := Aside0.mk A470
                              clear A470
                              have H' := Aside0.mk H
                              clear H
                              go_wp2_with (first | (go_at_call 13; (with_reducible refine (split_Splitter_Held.calls g183 t198 t199 t200 t202 t203 t204 t205 w _ ?side1 ?side2 A42.out).mono ?_); (case side1 => repeat (first | (with_reducible first | exact HI183.out | apply IsS49.alloc | apply IsS49.drewN | apply IsS49.drew | apply IsS49.set_0 | apply IsS49.set_1 | apply IsS49.set_2 | refine IsS49.far ?_ NB183_175.out _ | refine IsS49.far ?_ NB183_201.out _) | exact HI183.out)); (case side2 => repeat (first | (with_reducible first | exact HB.out | apply below_alloc | apply pw_below_drewN | apply below_drew1 | refine below_set ?_ (IsS49.ge HI183.out) | refine below_set ?_ GE175.out | refine below_set ?_ GE201.out) | exact HB.out)); rintro e w48 ⟨rfl, hi, hb, hk⟩; have n0_ := Aside0.mk (KeepBut.blk hk (g' := gb175) (o := .cells #[.int .i64 a0_0, .int .i64 a0_1, .int .i64 a0_2, .string a0_3] 28 (0, 0)) (by (with_reducible repeat (first | refine blk_drewN ?_ _ | refine blk_drew ?_ | refine blk_alloc ?_ _)); refine blk_far ?_ NB175_201.out _; (with_reducible repeat (first | refine blk_drewN ?_ _ | refine blk_drew ?_ | refine blk_alloc ?_ _)); refine blk_far ?_ NB175_201.out _; (with_reducible repeat (first | refine blk_drewN ?_ _ | refine blk_drew ?_ | refine blk_alloc ?_ _)); refine blk_far ?_ NB175_201.out _; (with_reducible repeat (first | refine blk_drewN ?_ _ | refine blk_drew ?_ | refine blk_alloc ?_ _)); refine blk_far ?_ NB175_201.out _; (with_reducible repeat (first | refine blk_drewN ?_ _ | refine blk_drew ?_ | refine blk_alloc ?_ _)); exact BK175.out) NB175_183.out (by simp)); have n1_ := Aside0.mk (KeepBut.blk hk (g' := gb201) (o := .cells #[.int .i64 t192, .int .i64 t193, .int .i64 t194, .string t195] 28 (0, 0)) (by (with_reducible repeat (first | refine blk_drewN ?_ _ | refine blk_drew ?_ | refine blk_alloc ?_ _)); refine blk_put (cs := #[.int .i64 t192, .int .i64 t193, .int .i64 t194, .string (⟨#[]⟩ : ByteArray)]) ?_ 3 _ rfl; (with_reducible repeat (first | refine blk_drewN ?_ _ | refine blk_drew ?_ | refine blk_alloc ?_ _)); refine blk_put (cs := #[.int .i64 t192, .int .i64 t193, .int .i64 0, .string (⟨#[]⟩ : ByteArray)]) ?_ 2 _ rfl; (with_reducible repeat (first | refine blk_drewN ?_ _ | refine blk_drew ?_ | refine blk_alloc ?_ _)); refine blk_put (cs := #[.int .i64 t192, .int .i64 0, .int .i64 0, .string (⟨#[]⟩ : ByteArray)]) ?_ 1 _ rfl; (with_reducible repeat (first | refine blk_drewN ?_ _ | refine blk_drew ?_ | refine blk_alloc ?_ _)); refine blk_put (cs := #[.int .i64 0, .int .i64 0, .int .i64 0, .string (⟨#[]⟩ : ByteArray)]) ?_ 0 _ rfl; (with_reducible repeat (first | refine blk_drewN ?_ _ | refine blk_drew ?_ | refine blk_alloc ?_ _)); exact BK201.out) NB201_183.out (by simp)); have n2_ := Aside0.mk (hb); have n3_ := Aside0.mk (hi); clear BK175; clear BK201; clear HB; clear HI183; have BK175 := n0_; have BK201 := n1_; have HB := n2_; have HI183 := n3_; clear n0_ n1_ n2_ n3_; (try clear hb); (try clear hb2); (try clear hk); (try clear hi)) | (go_at_call 12; (with_reducible refine (split_Splitter_Feed.calls g183 t203 t204 t205 (t176.extract ((ji44) : Int).toNat t176.size) t206 t207 t208 t209 w _ ?side1 ?side2 A47.out).mono ?_); (case side1 => repeat (first | (with_reducible first | exact HI183.out | apply IsS49.alloc | apply IsS49.drewN | apply IsS49.drew | apply IsS49.set_0 | apply IsS49.set_1 | apply IsS49.set_2 | refine IsS49.far ?_ NB183_175.out _ | refine IsS49.far ?_ NB183_201.out _) | exact HI183.out)); (case side2 => repeat (first | (with_reducible first | exact HB.out | apply below_alloc | apply pw_below_drewN | apply below_drew1 | refine below_set ?_ (IsS49.ge HI183.out) | refine below_set ?_ GE175.out | refine below_set ?_ GE201.out) | exact HB.out)); rintro e w49 ⟨rfl, hi, hb, hk⟩; have n0_ := Aside0.mk (KeepBut.blk hk (g' := gb175) (o := .cells #[.int .i64 a0_0, .int .i64 a0_1, .int .i64 a0_2, .string a0_3] 28 (0, 0)) (by (with_reducible repeat (first | refine blk_drewN ?_ _ | refine blk_drew ?_ | refine blk_alloc ?_ _)); exact BK175.out) NB175_183.out (by simp)); have n1_ := Aside0.mk (KeepBut.blk hk (g' := gb201) (o := .cells #[.int .i64 t192, .int .i64 t193, .int .i64 t194, .string t195] 28 (0, 0)) (by (with_reducible repeat (first | refine blk_drewN ?_ _ | refine blk_drew ?_ | refine blk_alloc ?_ _)); exact BK201.out) NB201_183.out (by simp)); have n2_ := Aside0.mk (hb); have n3_ := Aside0.mk (hi); clear BK175; clear BK201; clear HB; clear HI183; have BK175 := n0_; have BK201 := n1_; have HB := n2_; have HI183 := n3_; clear n0_ n1_ n2_ n3_; (try clear hb); (try clear hb2); (try clear hk); (try clear hi)))
                              subst hji44
                              go_meet
                              case rel => exact ⟨_, ((t206 != (wrap64 ((t176.size : Int) - (((Int.tmod (wrap64 ((Int.tmod a1 (t176.size : Int)) + (t176.size : Int))) (t176.size : Int)))))))), (t207), (t208), (t209), (by first | rfl | (simp; done) | (simp [*]; done)), H', ⟨by have := HJ3.out; have := HJ20.out; first | omega | exact Nat.le_refl _⟩, ⟨by (with_reducible repeat (first | refine blk_drewN ?_ _ | refine blk_drew ?_ | refine blk_alloc ?_ _)); exact BK175.out⟩, ⟨by (with_reducible repeat (first | refine blk_drewN ?_ _ | refine blk_drew ?_ | refine blk_alloc ?_ _)); exact BK201.out⟩, ⟨by repeat (first | (with_reducible first | exact HI183.out | apply IsS49.alloc | apply IsS49.drewN | apply IsS49.drew | apply IsS49.set_0 | apply IsS49.set_1 | apply IsS49.set_2 | refine IsS49.far ?_ NB183_175.out _ | refine IsS49.far ?_ NB183_201.out _) | exact HI183.out)⟩, ⟨by repeat (first | (with_reducible first | exact HB.out | apply below_alloc | apply pw_below_drewN | apply below_drew1 | refine below_set ?_ (IsS49.ge HI183.out) | refine below_set ?_ GE175.out | refine below_set ?_ GE201.out) | exact HB.out)⟩⟩
                            · rw [if_neg c46] at H
                              exact absurd H (by simp)
                          · rw [if_neg c45] at H
                            exact absurd H (by simp)
                        · rw [if_neg c43] at H
                          have c43b0 : (t202 == (Int.tmod (wrap64 ((Int.tmod a1 (t176.size : Int)) + (t176.size : Int))) (t176.size : Int))) = false := beq_eq_false_iff_ne.mpr c43
                          have c43b1 : (t202 != (Int.tmod (wrap64 ((Int.tmod a1 (t176.size : Int)) + (t176.size : Int))) (t176.size : Int))) = true := bne_iff_ne.mpr c43
                          have H' := Aside0.mk H
                          clear H
                          go_wp2_with (first | (go_at_call 13; (with_reducible refine (split_Splitter_Held.calls g183 t198 t199 t200 t202 t203 t204 t205 w _ ?side1 ?side2 A42.out).mono ?_); (case side1 => repeat (first | (with_reducible first | exact HI183.out | apply IsS49.alloc | apply IsS49.drewN | apply IsS49.drew | apply IsS49.set_0 | apply IsS49.set_1 | apply IsS49.set_2 | refine IsS49.far ?_ NB183_175.out _ | refine IsS49.far ?_ NB183_201.out _) | exact HI183.out)); (case side2 => repeat (first | (with_reducible first | exact HB.out | apply below_alloc | apply pw_below_drewN | apply below_drew1 | refine below_set ?_ (IsS49.ge HI183.out) | refine below_set ?_ GE175.out | refine below_set ?_ GE201.out) | exact HB.out)); rintro e w50 ⟨rfl, hi, hb, hk⟩; have n0_ := Aside0.mk (KeepBut.blk hk (g' := gb175) (o := .cells #[.int .i64 a0_0, .int .i64 a0_1, .int .i64 a0_2, .string a0_3] 28 (0, 0)) (by (with_reducible repeat (first | refine blk_drewN ?_ _ | refine blk_drew ?_ | refine blk_alloc ?_ _)); refine blk_far ?_ NB175_201.out _; (with_reducible repeat (first | refine blk_drewN ?_ _ | refine blk_drew ?_ | refine blk_alloc ?_ _)); refine blk_far ?_ NB175_201.out _; (with_reducible repeat (first | refine blk_drewN ?_ _ | refine blk_drew ?_ | refine blk_alloc ?_ _)); refine blk_far ?_ NB175_201.out _; (with_reducible repeat (first | refine blk_drewN ?_ _ | refine blk_drew ?_ | refine blk_alloc ?_ _)); refine blk_far ?_ NB175_201.out _; (with_reducible repeat (first | refine blk_drewN ?_ _ | refine blk_drew ?_ | refine blk_alloc ?_ _)); exact BK175.out) NB175_183.out (by simp)); have n1_ := Aside0.mk (KeepBut.blk hk (g' := gb201) (o := .cells #[.int .i64 t192, .int .i64 t193, .int .i64 t194, .string t195] 28 (0, 0)) (by (with_reducible repeat (first | refine blk_drewN ?_ _ | refine blk_drew ?_ | refine blk_alloc ?_ _)); refine blk_put (cs := #[.int .i64 t192, .int .i64 t193, .int .i64 t194, .string (⟨#[]⟩ : ByteArray)]) ?_ 3 _ rfl; (with_reducible repeat (first | refine blk_drewN ?_ _ | refine blk_drew ?_ | refine blk_alloc ?_ _)); refine blk_put (cs := #[.int .i64 t192, .int .i64 t193, .int .i64 0, .string (⟨#[]⟩ : ByteArray)]) ?_ 2 _ rfl; (with_reducible repeat (first | refine blk_drewN ?_ _ | refine blk_drew ?_ | refine blk_alloc ?_ _)); refine blk_put (cs := #[.int .i64 t192, .int .i64 0, .int .i64 0, .string (⟨#[]⟩ : ByteArray)]) ?_ 1 _ rfl; (with_reducible repeat (first | refine blk_drewN ?_ _ | refine blk_drew ?_ | refine blk_alloc ?_ _)); refine blk_put (cs := #[.int .i64 0, .int .i64 0, .int .i64 0, .string (⟨#[]⟩ : ByteArray)]) ?_ 0 _ rfl; (with_reducible repeat (first | refine blk_drewN ?_ _ | refine blk_drew ?_ | refine blk_alloc ?_ _)); exact BK201.out) NB201_183.out (by simp)); have n2_ := Aside0.mk (hb); have n3_ := Aside0.mk (hi); clear BK175; clear BK201; clear HB; clear HI183; have BK175 := n0_; have BK201 := n1_; have HB := n2_; have HI183 := n3_; clear n0_ n1_ n2_ n3_; (try clear hb); (try clear hb2); (try clear hk); (try clear hi)))
                          go_meet
                          case rel => exact ⟨_, (true), (t203), (t204), (t205), (by first | rfl | (simp; done) | (simp [*]; done)), H', ⟨by have := HJ3.out; have := HJ20.out; first | omega | exact Nat.le_refl _⟩, ⟨by (with_reducible repeat (first | refine blk_drewN ?_ _ | refine blk_drew ?_ | refine blk_alloc ?_ _)); exact BK175.out⟩, ⟨by (with_reducible repeat (first | refine blk_drewN ?_ _ | refine blk_drew ?_ | refine blk_alloc ?_ _)); exact BK201.out⟩, ⟨by repeat (first | (with_reducible first | exact HI183.out | apply IsS49.alloc | apply IsS49.drewN | apply IsS49.drew | apply IsS49.set_0 | apply IsS49.set_1 | apply IsS49.set_2 | refine IsS49.far ?_ NB183_175.out _ | refine IsS49.far ?_ NB183_201.out _) | exact HI183.out)⟩, ⟨by repeat (first | (with_reducible first | exact HB.out | apply below_alloc | apply pw_below_drewN | apply below_drew1 | refine below_set ?_ (IsS49.ge HI183.out) | refine below_set ?_ GE175.out | refine below_set ?_ GE201.out) | exact HB.out)⟩⟩
                      · rw [if_neg c41] at H
                        have c41b0 : (t197 == 0) = false := beq_eq_false_iff_ne.mpr c41
                        have c41b1 : (t197 != 0) = true := bne_iff_ne.mpr c41
                        (first | rw [c41b0] | (simp only [i64_w, i32_w]; rw [c41b0]) | skip)
                        have H' := Aside0.mk H
                        clear H
                        go_wp2
                        go_meet
                        case rel => exact ⟨_, (true), (t198), (t199), (t200), (by first | rfl | (simp; done) | (simp [*]; done)), H', ⟨by have := HJ3.out; have := HJ20.out; first | omega | exact Nat.le_refl _⟩, ⟨by (with_reducible repeat (first | refine blk_drewN ?_ _ | refine blk_drew ?_ | refine blk_alloc ?_ _)); refine blk_far ?_ NB175_201.out _; (with_reducible repeat (first | refine blk_drewN ?_ _ | refine blk_drew ?_ | refine blk_alloc ?_ _)); refine blk_far ?_ NB175_201.out _; (with_reducible repeat (first | refine blk_drewN ?_ _ | refine blk_drew ?_ | refine blk_alloc ?_ _)); refine blk_far ?_ NB175_201.out _; (with_reducible repeat (first | refine blk_drewN ?_ _ | refine blk_drew ?_ | refine blk_alloc ?_ _)); refine blk_far ?_ NB175_201.out _; (with_reducible repeat (first | refine blk_drewN ?_ _ | refine blk_drew ?_ | refine blk_alloc ?_ _)); exact BK175.out⟩, ⟨by (with_reducible repeat (first | refine blk_drewN ?_ _ | refine blk_drew ?_ | refine blk_alloc ?_ _)); refine blk_put (cs := #[.int .i64 t192, .int .i64 t193, .int .i64 t194, .string (⟨#[]⟩ : ByteArray)]) ?_ 3 _ rfl; (with_reducible repeat (first | refine blk_drewN ?_ _ | refine blk_drew ?_ | refine blk_alloc ?_ _)); refine blk_put (cs := #[.int .i64 t192, .int .i64 t193, .int .i64 0, .string (⟨#[]⟩ : ByteArray)]) ?_ 2 _ rfl; (with_reducible repeat (first | refine blk_drewN ?_ _ | refine blk_drew ?_ | refine blk_alloc ?_ _)); refine blk_put (cs := #[.int .i64 t192, .int .i64 0, .int .i64 0, .string (⟨#[]⟩ : ByteArray)]) ?_ 1 _ rfl; (with_reducible repeat (first | refine blk_drewN ?_ _ | refine blk_drew ?_ | refine blk_alloc ?_ _)); refine blk_put (cs := #[.int .i64 0, .int .i64 0, .int .i64 0, .string (⟨#[]⟩ : ByteArray)]) ?_ 0 _ rfl; (with_reducible repeat (first | refine blk_drewN ?_ _ | refine blk_drew ?_ | refine blk_alloc ?_ _)); exact BK201.out⟩, ⟨by repeat (first | (with_reducible first | exact HI183.out | apply IsS49.alloc | apply IsS49.drewN | apply IsS49.drew | apply IsS49.set_0 | apply IsS49.set_1 | apply IsS49.set_2 | refine IsS49.far ?_ NB183_175.out _ | refine IsS49.far ?_ NB183_201.out _) | exact HI183.out)⟩, ⟨by repeat (first | (with_reducible first | exact HB.out | apply below_alloc | apply pw_below_drewN | apply below_drew1 | refine below_set ?_ (IsS49.ge HI183.out) | refine below_set ?_ GE175.out | refine below_set ?_ GE201.out) | exact HB.out)⟩⟩
                  case rest =>
                    clear HC34
                    try clear c1
                    try clear c2
                    try clear p2
                    try clear c3
                    try clear c4
                    try clear c6
                    try clear p6
                    try clear c8
                    try clear c9
                    try clear c9b0
                    try clear c9b1
                    try clear c10
                    try clear c11
                    try clear c12
                    try clear c14
                    try clear c16
                    try clear c18
                    try clear c18b0
                    try clear c18b1
                    try clear c20
                    try clear c20b0
                    try clear c20b1
                    try clear c24
                    try clear c24b0
                    try clear c24b1
                    try clear c25
                    try clear c25b0
                    try clear c25b1
                    try clear c27
                    try clear c27b0
                    try clear c27b1
                    try clear c32
                    try clear c37
                    try clear c38
                    try clear c40
                    try clear c41
                    try clear c41b0
                    try clear c41b1
                    try clear c43
                    try clear c43b0
                    try clear c43b1
                    try clear c45
                    try clear c45b0
                    try clear c45b1
                    try clear c46
                    try clear c46b0
                    try clear c46b1
                    try clear hcz10_0
                    try clear hcz10_1
                    try clear hcz10_2
                    try clear hcz10_3
                    try clear hcz12_0
                    try clear hcz12_1
                    try clear hcz12_2
                    try clear hcz12_3
                    try clear hcz39_0
                    try clear hcz39_1
                    try clear hcz39_2
                    try clear hcz39_3
                    try clear hcz6_0
                    try clear hcz6_1
                    try clear hcz6_2
                    try clear hcz6_3
                    try clear hfz10_0
                    try clear hfz10_1
                    try clear hfz10_2
                    try clear hfz10_3
                    try clear hfz12_0
                    try clear hfz12_1
                    try clear hfz12_2
                    try clear hfz12_3
                    try clear hfz39_0
                    try clear hfz39_1
                    try clear hfz39_2
                    try clear hfz39_3
                    try clear hfz6_0
                    try clear hfz6_1
                    try clear hfz6_2
                    try clear hfz6_3
                    try clear p2
                    try clear p6
                    obtain ⟨kq, x92_33, x184000_33, x184001_33, x184002_33, rfl, HA, HJ33, BK175, BK201, HI183, HB⟩ := hcut
                    cases kq with
                    | zero => exact absurd HA.out (by simp [bywashlaw8_SplitHolds.j2])
                    | succ kj33 =>
                      have H := HA.out
                      clear HA
                      simp only [bywashlaw8_SplitHolds.j2] at H
                      by_cases c51 : x92_33 = true
                      · subst c51
                        have H1 : (some false) = some r := by rw [if_pos rfl] at H; exact H
                        clear H
                        have H := H1
                        clear H1
                        obtain rfl := Option.some.inj H
                        go_wp2
                        go_ret
                        exact ⟨by first | rfl | (simp [errW_none, errW_some] <;> rfl) | (simp [*, errW_none, errW_some] <;> rfl), by repeat (first | (with_reducible first | exact HB.out | apply below_alloc | apply pw_below_drewN | apply below_drew1 | refine below_set ?_ (IsS49.ge HI183.out) | refine below_set ?_ GE175.out | refine below_set ?_ GE201.out) | exact HB.out)⟩
                      · replace c51 := Bool.eq_false_iff.mpr c51
                        subst c51
                        have H1 : ((split_Splitter_Next.f kj33 x184000_33 x184001_33 x184002_33).bind fun bt210 => (if bt210.2.2.2.2.1 = true then (if bt210.2.2.2.2.2.1 = 0 then (if (bt210.1 == a0_0 && (bt210.2.1 == a0_1 && (bt210.2.2.1 == a0_2 && (bt210.2.2.2.1.toList == a0_3.toList)))) = true then ((split_Splitter_Held.f bt210.2.2.2.2.2.2.1 bt210.2.2.2.2.2.2.2.1 bt210.2.2.2.2.2.2.2.2).bind fun bt220 => (some (bt220.1 == 0))) else (some false)) else (some false)) else (some false))) = some r := by rw [if_neg (show ¬ (false = true) by decide)] at H; exact H
                        clear H
                        have H := H1
                        clear H1
                        replace H := Option.bind_eq_some_iff.mp H
                        obtain ⟨⟨t210, t211, t212, t213, t214, t215, t216, t217, t218⟩, A520, H⟩ := H
                        replace H : (if t214 = true then (if t215 = 0 then (if (t210 == a0_0 && (t211 == a0_1 && (t212 == a0_2 && (t213.toList == a0_3.toList)))) = true then ((split_Splitter_Held.f t216 t217 t218).bind fun bt220 => (some (bt220.1 == 0))) else (some false)) else (some false)) else (some false)) = some r := H
                        have A52 := Aside0.mk A520
                        clear A520
                        by_cases c53 : t214 = true
                        · subst c53
                          have H1 : (if t215 = 0 then (if (t210 == a0_0 && (t211 == a0_1 && (t212 == a0_2 && (t213.toList == a0_3.toList)))) = true then ((split_Splitter_Held.f t216 t217 t218).bind fun bt220 => (some (bt220.1 == 0))) else (some false)) else (some false)) = some r := by rw [if_pos rfl] at H; exact H
                          clear H
                          have H := H1
                          clear H1
                          by_cases c54 : t215 = 0
                          · rw [if_pos c54] at H
                            have c54b0 : (t215 == 0) = true := beq_iff_eq.mpr c54
                            have c54b1 : (t215 != 0) = false := bne_eq_false_iff_eq.mpr c54
                            clear c54
                            by_cases c55 : (t210 == a0_0 && (t211 == a0_1 && (t212 == a0_2 && (t213.toList == a0_3.toList)))) = true
                            · rw [if_pos c55] at H
                              have c55b0 : (t210 == a0_0 && (t211 == a0_1 && (t212 == a0_2 && (t213.toList == a0_3.toList)))) = true := c55
                              (try (have c55b1 : decide (t210 = a0_0 && (t211 == a0_1 && (t212 == a0_2 && (t213.toList == a0_3.toList)))) = true := by simpa using c55))
                              (try (have c55b2 : (t210 == a0_0 && (t211 == a0_1 && (t212 == a0_2 && (t213.toList == a0_3.toList)))) = true := by simpa using c55))
                              clear c55
                              replace H := Option.bind_eq_some_iff.mp H
                              obtain ⟨⟨t220, t221, t222, t223⟩, A560, H⟩ := H
                              replace H : (some (t220 == 0)) = some r := H
                              have A56 := Aside0.mk A560
                              clear A560
                              obtain rfl := Option.some.inj H
                              go_wp2_with (first | ((with_reducible refine gate_callee (f := 11) rfl ?_); refine goesL_ (some 95) rfl rfl Try.func11 (by kernel_rfl) rfl #[.pointer (some ⟨g183, 0, none⟩)] rfl (by (try simp only [List.map_toArray, List.map_cons, List.map_nil]); first | done | rfl | (simp only [List.length_drop, List.length_take]; rfl)) ?_; (with_reducible refine (split_Splitter_Next.calls kj33 g183 x184000_33 x184001_33 x184002_33 t210 t211 t212 t213 true t215 t216 t217 t218 w _ ?side1 ?side2 A52.out).mono ?_); (case side1 => repeat (first | (with_reducible first | exact HI183.out | apply IsS49.alloc | apply IsS49.drewN | apply IsS49.drew | apply IsS49.set_0 | apply IsS49.set_1 | apply IsS49.set_2 | refine IsS49.far ?_ NB183_175.out _ | refine IsS49.far ?_ NB183_201.out _) | exact HI183.out)); (case side2 => repeat (first | (with_reducible first | exact HB.out | apply below_alloc | apply pw_below_drewN | apply below_drew1 | refine below_set ?_ (IsS49.ge HI183.out) | refine below_set ?_ GE175.out | refine below_set ?_ GE201.out) | exact HB.out)); rintro e w57 ⟨rfl, hi, hb, hk⟩; refine ⟨_, rfl, ?_⟩; have n0_ := Aside0.mk (KeepBut.blk hk (g' := gb175) (o := .cells #[.int .i64 a0_0, .int .i64 a0_1, .int .i64 a0_2, .string a0_3] 28 (0, 0)) (by (with_reducible repeat (first | refine blk_drewN ?_ _ | refine blk_drew ?_ | refine blk_alloc ?_ _)); exact BK175.out) NB175_183.out (by simp)); have n1_ := Aside0.mk (KeepBut.blk hk (g' := gb201) (o := .cells #[.int .i64 t192, .int .i64 t193, .int .i64 t194, .string t195] 28 (0, 0)) (by (with_reducible repeat (first | refine blk_drewN ?_ _ | refine blk_drew ?_ | refine blk_alloc ?_ _)); exact BK201.out) NB201_183.out (by simp)); have n2_ := Aside0.mk (hb); have n3_ := Aside0.mk (hi); clear BK175; clear BK201; clear HB; clear HI183; have BK175 := n0_; have BK201 := n1_; have HB := n2_; have HI183 := n3_; clear n0_ n1_ n2_ n3_; (try clear hb); (try clear hb2); (try clear hk); (try clear hi)) | ((with_reducible refine gate_dst (N := 12) rfl ?_); (try (refine gate_guard (by rfl) ?_; dsimp only)); refine box_event ?hg (N := 12) ?hd (cs := #[.int .i64 0, .int .i64 0, .int .i64 0, .string (⟨#[]⟩ : ByteArray)]) (t := 28) ?hr ?_; (case hd => rfl); (case hg => rfl); (case hr => first | (go_simp; done) | (go_simp; rfl)); intro gb219 hg w58 hbox hb; have n0_ := Aside0.mk (blk_below (g := gb175) (o := .cells #[.int .i64 a0_0, .int .i64 a0_1, .int .i64 a0_2, .string a0_3] 28 (0, 0)) (by (with_reducible repeat (first | refine blk_drewN ?_ _ | refine blk_drew ?_ | refine blk_alloc ?_ _)); exact BK175.out) hb); have n1_ := Aside0.mk (blk_below (g := gb201) (o := .cells #[.int .i64 t192, .int .i64 t193, .int .i64 t194, .string t195] 28 (0, 0)) (by (with_reducible repeat (first | refine blk_drewN ?_ _ | refine blk_drew ?_ | refine blk_alloc ?_ _)); exact BK201.out) hb); have n2_ := Aside0.mk (IsS49.below (by repeat (first | (with_reducible first | exact HI183.out | apply IsS49.alloc | apply IsS49.drewN | apply IsS49.drew | apply IsS49.set_0 | apply IsS49.set_1 | apply IsS49.set_2 | refine IsS49.far ?_ NB183_175.out _ | refine IsS49.far ?_ NB183_201.out _) | exact HI183.out)) hb); have n3_ := Aside0.mk (below_step (by repeat (first | (with_reducible first | exact HB.out | apply below_alloc | apply pw_below_drewN | apply below_drew1 | refine below_set ?_ (IsS49.ge HI183.out) | refine below_set ?_ GE175.out | refine below_set ?_ GE201.out) | exact HB.out)) hb); have n4_ := Aside0.mk (hbox); have n5_ := Aside0.mk ((by rw [hg]; exact (below_size (by repeat (first | (with_reducible first | exact HB.out | apply below_alloc | apply pw_below_drewN | apply below_drew1 | refine below_set ?_ (IsS49.ge HI183.out) | refine below_set ?_ GE175.out | refine below_set ?_ GE201.out) | exact HB.out))) : w.heap.size ≤ gb219)); have n6_ := Aside0.mk ((by rw [hg]; exact (below_size (by repeat (first | (with_reducible first | exact HB.out | apply below_alloc | apply pw_below_drewN | apply below_drew1 | refine below_set ?_ (IsS49.ge HI183.out) | refine below_set ?_ GE175.out | refine below_set ?_ GE201.out) | exact HB.out))) : w.heap.size ≤ gb219)); have n7_ := Aside0.mk ((by rw [hg]; exact Nat.ne_of_lt (blk_lt (g := gb175) (o := .cells #[.int .i64 a0_0, .int .i64 a0_1, .int .i64 a0_2, .string a0_3] 28 (0, 0)) (by (with_reducible repeat (first | refine blk_drewN ?_ _ | refine blk_drew ?_ | refine blk_alloc ?_ _)); exact BK175.out)) : gb175 ≠ gb219)); have n8_ := Aside0.mk ((by rw [hg]; exact Nat.ne_of_gt (blk_lt (g := gb175) (o := .cells #[.int .i64 a0_0, .int .i64 a0_1, .int .i64 a0_2, .string a0_3] 28 (0, 0)) (by (with_reducible repeat (first | refine blk_drewN ?_ _ | refine blk_drew ?_ | refine blk_alloc ?_ _)); exact BK175.out)) : gb219 ≠ gb175)); have n9_ := Aside0.mk ((by rw [hg]; exact Nat.ne_of_lt (blk_lt (g := gb201) (o := .cells #[.int .i64 t192, .int .i64 t193, .int .i64 t194, .string t195] 28 (0, 0)) (by (with_reducible repeat (first | refine blk_drewN ?_ _ | refine blk_drew ?_ | refine blk_alloc ?_ _)); exact BK201.out)) : gb201 ≠ gb219)); have n10_ := Aside0.mk ((by rw [hg]; exact Nat.ne_of_gt (blk_lt (g := gb201) (o := .cells #[.int .i64 t192, .int .i64 t193, .int .i64 t194, .string t195] 28 (0, 0)) (by (with_reducible repeat (first | refine blk_drewN ?_ _ | refine blk_drew ?_ | refine blk_alloc ?_ _)); exact BK201.out)) : gb219 ≠ gb201)); have n11_ := Aside0.mk ((by rw [hg]; exact Nat.ne_of_lt (IsS49.lt (show IsS49 w _ g183 t216 t217 t218 from by repeat (first | (with_reducible first | exact HI183.out | apply IsS49.alloc | apply IsS49.drewN | apply IsS49.drew | apply IsS49.set_0 | apply IsS49.set_1 | apply IsS49.set_2 | refine IsS49.far ?_ NB183_175.out _ | refine IsS49.far ?_ NB183_201.out _) | exact HI183.out))) : g183 ≠ gb219)); have n12_ := Aside0.mk ((by rw [hg]; exact Nat.ne_of_gt (IsS49.lt (show IsS49 w _ g183 t216 t217 t218 from by repeat (first | (with_reducible first | exact HI183.out | apply IsS49.alloc | apply IsS49.drewN | apply IsS49.drew | apply IsS49.set_0 | apply IsS49.set_1 | apply IsS49.set_2 | refine IsS49.far ?_ NB183_175.out _ | refine IsS49.far ?_ NB183_201.out _) | exact HI183.out))) : gb219 ≠ g183)); clear BK175; clear BK201; clear HI183; clear HB; have BK175 := n0_; have BK201 := n1_; have HI183 := n2_; have HB := n3_; have BK219 := n4_; have GW219 := n5_; have GE219 := n6_; have NB175_219 := n7_; have NB219_175 := n8_; have NB201_219 := n9_; have NB219_201 := n10_; have NB183_219 := n11_; have NB219_183 := n12_; clear n0_ n1_ n2_ n3_ n4_ n5_ n6_ n7_ n8_ n9_ n10_ n11_ n12_; clear hb hbox hg; have hnb59 := NB219_175.out; have hnc59 := NB175_219.out; have hnb60 := NB219_201.out; have hnc60 := NB201_219.out; have hnb61 := NB219_183.out; have hnc61 := NB183_219.out; have hcz62_0 : w58.cell? ⟨gb219, 0, none⟩ = some (.int .i64 0) := (blk_cell BK219.out 0).trans rfl; have hcz62_1 : w58.cell? ⟨gb219, 1, none⟩ = some (.int .i64 0) := (blk_cell BK219.out 1).trans rfl; have hcz62_2 : w58.cell? ⟨gb219, 2, none⟩ = some (.int .i64 0) := (blk_cell BK219.out 2).trans rfl; have hcz62_3 : w58.cell? ⟨gb219, 3, none⟩ = some (.string (⟨#[]⟩ : ByteArray)) := (blk_cell BK219.out 3).trans rfl; have hfz62_0 := blk_frozen BK219.out 0; have hfz62_1 := blk_frozen BK219.out 1; have hfz62_2 := blk_frozen BK219.out 2; have hfz62_3 := blk_frozen BK219.out 3; have hnb63 := NB175_201.out; have hnc63 := NB201_175.out; have hnb64 := NB175_183.out; have hnc64 := NB183_175.out; have hcz65_0 : w58.cell? ⟨gb175, 0, none⟩ = some (.int .i64 a0_0) := (blk_cell BK175.out 0).trans rfl; have hcz65_1 : w58.cell? ⟨gb175, 1, none⟩ = some (.int .i64 a0_1) := (blk_cell BK175.out 1).trans rfl; have hcz65_2 : w58.cell? ⟨gb175, 2, none⟩ = some (.int .i64 a0_2) := (blk_cell BK175.out 2).trans rfl; have hcz65_3 : w58.cell? ⟨gb175, 3, none⟩ = some (.string a0_3) := (blk_cell BK175.out 3).trans rfl; have hfz65_0 := blk_frozen BK175.out 0; have hfz65_1 := blk_frozen BK175.out 1; have hfz65_2 := blk_frozen BK175.out 2; have hfz65_3 := blk_frozen BK175.out 3) | (go_at_call 13; (with_reducible refine (split_Splitter_Held.calls g183 t216 t217 t218 t220 t221 t222 t223 w _ ?side1 ?side2 A56.out).mono ?_); (case side1 => repeat (first | (with_reducible first | exact HI183.out | apply IsS49.alloc | apply IsS49.drewN | apply IsS49.drew | apply IsS49.set_0 | apply IsS49.set_1 | apply IsS49.set_2 | refine IsS49.far ?_ NB183_175.out _ | refine IsS49.far ?_ NB183_201.out _ | refine IsS49.far ?_ NB183_219.out _) | exact HI183.out)); (case side2 => repeat (first | (with_reducible first | exact HB.out | apply below_alloc | apply pw_below_drewN | apply below_drew1 | refine below_set ?_ (IsS49.ge HI183.out) | refine below_set ?_ GE175.out | refine below_set ?_ GE201.out | refine below_set ?_ GE219.out) | exact HB.out)); rintro e w66 ⟨rfl, hi, hb, hk⟩; have n0_ := Aside0.mk (KeepBut.blk hk (g' := gb175) (o := .cells #[.int .i64 a0_0, .int .i64 a0_1, .int .i64 a0_2, .string a0_3] 28 (0, 0)) (by (with_reducible repeat (first | refine blk_drewN ?_ _ | refine blk_drew ?_ | refine blk_alloc ?_ _)); refine blk_far ?_ NB175_219.out _; (with_reducible repeat (first | refine blk_drewN ?_ _ | refine blk_drew ?_ | refine blk_alloc ?_ _)); refine blk_far ?_ NB175_219.out _; (with_reducible repeat (first | refine blk_drewN ?_ _ | refine blk_drew ?_ | refine blk_alloc ?_ _)); refine blk_far ?_ NB175_219.out _; (with_reducible repeat (first | refine blk_drewN ?_ _ | refine blk_drew ?_ | refine blk_alloc ?_ _)); refine blk_far ?_ NB175_219.out _; (with_reducible repeat (first | refine blk_drewN ?_ _ | refine blk_drew ?_ | refine blk_alloc ?_ _)); exact BK175.out) NB175_183.out (by simp)); have n1_ := Aside0.mk (KeepBut.blk hk (g' := gb201) (o := .cells #[.int .i64 t192, .int .i64 t193, .int .i64 t194, .string t195] 28 (0, 0)) (by (with_reducible repeat (first | refine blk_drewN ?_ _ | refine blk_drew ?_ | refine blk_alloc ?_ _)); refine blk_far ?_ NB201_219.out _; (with_reducible repeat (first | refine blk_drewN ?_ _ | refine blk_drew ?_ | refine blk_alloc ?_ _)); refine blk_far ?_ NB201_219.out _; (with_reducible repeat (first | refine blk_drewN ?_ _ | refine blk_drew ?_ | refine blk_alloc ?_ _)); refine blk_far ?_ NB201_219.out _; (with_reducible repeat (first | refine blk_drewN ?_ _ | refine blk_drew ?_ | refine blk_alloc ?_ _)); refine blk_far ?_ NB201_219.out _; (with_reducible repeat (first | refine blk_drewN ?_ _ | refine blk_drew ?_ | refine blk_alloc ?_ _)); exact BK201.out) NB201_183.out (by simp)); have n2_ := Aside0.mk (KeepBut.blk hk (g' := gb219) (o := .cells #[.int .i64 t210, .int .i64 t211, .int .i64 t212, .string t213] 28 (0, 0)) (by (with_reducible repeat (first | refine blk_drewN ?_ _ | refine blk_drew ?_ | refine blk_alloc ?_ _)); refine blk_put (cs := #[.int .i64 t210, .int .i64 t211, .int .i64 t212, .string (⟨#[]⟩ : ByteArray)]) ?_ 3 _ rfl; (with_reducible repeat (first | refine blk_drewN ?_ _ | refine blk_drew ?_ | refine blk_alloc ?_ _)); refine blk_put (cs := #[.int .i64 t210, .int .i64 t211, .int .i64 0, .string (⟨#[]⟩ : ByteArray)]) ?_ 2 _ rfl; (with_reducible repeat (first | refine blk_drewN ?_ _ | refine blk_drew ?_ | refine blk_alloc ?_ _)); refine blk_put (cs := #[.int .i64 t210, .int .i64 0, .int .i64 0, .string (⟨#[]⟩ : ByteArray)]) ?_ 1 _ rfl; (with_reducible repeat (first | refine blk_drewN ?_ _ | refine blk_drew ?_ | refine blk_alloc ?_ _)); refine blk_put (cs := #[.int .i64 0, .int .i64 0, .int .i64 0, .string (⟨#[]⟩ : ByteArray)]) ?_ 0 _ rfl; (with_reducible repeat (first | refine blk_drewN ?_ _ | refine blk_drew ?_ | refine blk_alloc ?_ _)); exact BK219.out) NB219_183.out (by simp)); have n3_ := Aside0.mk (hb); have n4_ := Aside0.mk (hi); clear BK175; clear BK201; clear BK219; clear HB; clear HI183; have BK175 := n0_; have BK201 := n1_; have BK219 := n2_; have HB := n3_; have HI183 := n4_; clear n0_ n1_ n2_ n3_ n4_; (try clear hb); (try clear hb2); (try clear hk); (try clear hi)))
                              go_ret
                              exact ⟨by first | rfl | (simp [errW_none, errW_some] <;> rfl) | (simp [*, errW_none, errW_some] <;> rfl), by repeat (first | (with_reducible first | exact HB.out | apply below_alloc | apply pw_below_drewN | apply below_drew1 | refine below_set ?_ (IsS49.ge HI183.out) | refine below_set ?_ GE175.out | refine below_set ?_ GE201.out | refine below_set ?_ GE219.out) | exact HB.out)⟩
                            · rw [if_neg c55] at H
                              have c55b0 : (t210 == a0_0 && (t211 == a0_1 && (t212 == a0_2 && (t213.toList == a0_3.toList)))) = false := by simpa using c55
                              (try (have c55b1 : decide (t210 = a0_0 && (t211 == a0_1 && (t212 == a0_2 && (t213.toList == a0_3.toList)))) = false := by simpa using c55))
                              (try (have c55b2 : (t210 == a0_0 && (t211 == a0_1 && (t212 == a0_2 && (t213.toList == a0_3.toList)))) = false := by simpa using c55))
                              (try (have c55b3 : ¬ (t210 = a0_0 && (t211 == a0_1 && (t212 == a0_2 && (t213.toList == a0_3.toList)))) := by simpa using c55))
                              clear c55
                              obtain rfl := Option.some.inj H
                              go_wp2_with (first | ((with_reducible refine gate_callee (f := 11) rfl ?_); refine goesL_ (some 95) rfl rfl Try.func11 (by kernel_rfl) rfl #[.pointer (some ⟨g183, 0, none⟩)] rfl (by (try simp only [List.map_toArray, List.map_cons, List.map_nil]); first | done | rfl | (simp only [List.length_drop, List.length_take]; rfl)) ?_; (with_reducible refine (split_Splitter_Next.calls kj33 g183 x184000_33 x184001_33 x184002_33 t210 t211 t212 t213 true t215 t216 t217 t218 w _ ?side1 ?side2 A52.out).mono ?_); (case side1 => repeat (first | (with_reducible first | exact HI183.out | apply IsS49.alloc | apply IsS49.drewN | apply IsS49.drew | apply IsS49.set_0 | apply IsS49.set_1 | apply IsS49.set_2 | refine IsS49.far ?_ NB183_175.out _ | refine IsS49.far ?_ NB183_201.out _) | exact HI183.out)); (case side2 => repeat (first | (with_reducible first | exact HB.out | apply below_alloc | apply pw_below_drewN | apply below_drew1 | refine below_set ?_ (IsS49.ge HI183.out) | refine below_set ?_ GE175.out | refine below_set ?_ GE201.out) | exact HB.out)); rintro e w67 ⟨rfl, hi, hb, hk⟩; refine ⟨_, rfl, ?_⟩; have n0_ := Aside0.mk (KeepBut.blk hk (g' := gb175) (o := .cells #[.int .i64 a0_0, .int .i64 a0_1, .int .i64 a0_2, .string a0_3] 28 (0, 0)) (by (with_reducible repeat (first | refine blk_drewN ?_ _ | refine blk_drew ?_ | refine blk_alloc ?_ _)); exact BK175.out) NB175_183.out (by simp)); have n1_ := Aside0.mk (KeepBut.blk hk (g' := gb201) (o := .cells #[.int .i64 t192, .int .i64 t193, .int .i64 t194, .string t195] 28 (0, 0)) (by (with_reducible repeat (first | refine blk_drewN ?_ _ | refine blk_drew ?_ | refine blk_alloc ?_ _)); exact BK201.out) NB201_183.out (by simp)); have n2_ := Aside0.mk (hb); have n3_ := Aside0.mk (hi); clear BK175; clear BK201; clear HB; clear HI183; have BK175 := n0_; have BK201 := n1_; have HB := n2_; have HI183 := n3_; clear n0_ n1_ n2_ n3_; (try clear hb); (try clear hb2); (try clear hk); (try clear hi)) | ((with_reducible refine gate_dst (N := 12) rfl ?_); (try (refine gate_guard (by rfl) ?_; dsimp only)); refine box_event ?hg (N := 12) ?hd (cs := #[.int .i64 0, .int .i64 0, .int .i64 0, .string (⟨#[]⟩ : ByteArray)]) (t := 28) ?hr ?_; (case hd => rfl); (case hg => rfl); (case hr => first | (go_simp; done) | (go_simp; rfl)); intro gb219 hg w68 hbox hb; have n0_ := Aside0.mk (blk_below (g := gb175) (o := .cells #[.int .i64 a0_0, .int .i64 a0_1, .int .i64 a0_2, .string a0_3] 28 (0, 0)) (by (with_reducible repeat (first | refine blk_drewN ?_ _ | refine blk_drew ?_ | refine blk_alloc ?_ _)); exact BK175.out) hb); have n1_ := Aside0.mk (blk_below (g := gb201) (o := .cells #[.int .i64 t192, .int .i64 t193, .int .i64 t194, .string t195] 28 (0, 0)) (by (with_reducible repeat (first | refine blk_drewN ?_ _ | refine blk_drew ?_ | refine blk_alloc ?_ _)); exact BK201.out) hb); have n2_ := Aside0.mk (IsS49.below (by repeat (first | (with_reducible first | exact HI183.out | apply IsS49.alloc | apply IsS49.drewN | apply IsS49.drew | apply IsS49.set_0 | apply IsS49.set_1 | apply IsS49.set_2 | refine IsS49.far ?_ NB183_175.out _ | refine IsS49.far ?_ NB183_201.out _) | exact HI183.out)) hb); have n3_ := Aside0.mk (below_step (by repeat (first | (with_reducible first | exact HB.out | apply below_alloc | apply pw_below_drewN | apply below_drew1 | refine below_set ?_ (IsS49.ge HI183.out) | refine below_set ?_ GE175.out | refine below_set ?_ GE201.out) | exact HB.out)) hb); have n4_ := Aside0.mk (hbox); have n5_ := Aside0.mk ((by rw [hg]; exact (below_size (by repeat (first | (with_reducible first | exact HB.out | apply below_alloc | apply pw_below_drewN | apply below_drew1 | refine below_set ?_ (IsS49.ge HI183.out) | refine below_set ?_ GE175.out | refine below_set ?_ GE201.out) | exact HB.out))) : w.heap.size ≤ gb219)); have n6_ := Aside0.mk ((by rw [hg]; exact (below_size (by repeat (first | (with_reducible first | exact HB.out | apply below_alloc | apply pw_below_drewN | apply below_drew1 | refine below_set ?_ (IsS49.ge HI183.out) | refine below_set ?_ GE175.out | refine below_set ?_ GE201.out) | exact HB.out))) : w.heap.size ≤ gb219)); have n7_ := Aside0.mk ((by rw [hg]; exact Nat.ne_of_lt (blk_lt (g := gb175) (o := .cells #[.int .i64 a0_0, .int .i64 a0_1, .int .i64 a0_2, .string a0_3] 28 (0, 0)) (by (with_reducible repeat (first | refine blk_drewN ?_ _ | refine blk_drew ?_ | refine blk_alloc ?_ _)); exact BK175.out)) : gb175 ≠ gb219)); have n8_ := Aside0.mk ((by rw [hg]; exact Nat.ne_of_gt (blk_lt (g := gb175) (o := .cells #[.int .i64 a0_0, .int .i64 a0_1, .int .i64 a0_2, .string a0_3] 28 (0, 0)) (by (with_reducible repeat (first | refine blk_drewN ?_ _ | refine blk_drew ?_ | refine blk_alloc ?_ _)); exact BK175.out)) : gb219 ≠ gb175)); have n9_ := Aside0.mk ((by rw [hg]; exact Nat.ne_of_lt (blk_lt (g := gb201) (o := .cells #[.int .i64 t192, .int .i64 t193, .int .i64 t194, .string t195] 28 (0, 0)) (by (with_reducible repeat (first | refine blk_drewN ?_ _ | refine blk_drew ?_ | refine blk_alloc ?_ _)); exact BK201.out)) : gb201 ≠ gb219)); have n10_ := Aside0.mk ((by rw [hg]; exact Nat.ne_of_gt (blk_lt (g := gb201) (o := .cells #[.int .i64 t192, .int .i64 t193, .int .i64 t194, .string t195] 28 (0, 0)) (by (with_reducible repeat (first | refine blk_drewN ?_ _ | refine blk_drew ?_ | refine blk_alloc ?_ _)); exact BK201.out)) : gb219 ≠ gb201)); have n11_ := Aside0.mk ((by rw [hg]; exact Nat.ne_of_lt (IsS49.lt (show IsS49 w _ g183 t216 t217 t218 from by repeat (first | (with_reducible first | exact HI183.out | apply IsS49.alloc | apply IsS49.drewN | apply IsS49.drew | apply IsS49.set_0 | apply IsS49.set_1 | apply IsS49.set_2 | refine IsS49.far ?_ NB183_175.out _ | refine IsS49.far ?_ NB183_201.out _) | exact HI183.out))) : g183 ≠ gb219)); have n12_ := Aside0.mk ((by rw [hg]; exact Nat.ne_of_gt (IsS49.lt (show IsS49 w _ g183 t216 t217 t218 from by repeat (first | (with_reducible first | exact HI183.out | apply IsS49.alloc | apply IsS49.drewN | apply IsS49.drew | apply IsS49.set_0 | apply IsS49.set_1 | apply IsS49.set_2 | refine IsS49.far ?_ NB183_175.out _ | refine IsS49.far ?_ NB183_201.out _) | exact HI183.out))) : gb219 ≠ g183)); clear BK175; clear BK201; clear HI183; clear HB; have BK175 := n0_; have BK201 := n1_; have HI183 := n2_; have HB := n3_; have BK219 := n4_; have GW219 := n5_; have GE219 := n6_; have NB175_219 := n7_; have NB219_175 := n8_; have NB201_219 := n9_; have NB219_201 := n10_; have NB183_219 := n11_; have NB219_183 := n12_; clear n0_ n1_ n2_ n3_ n4_ n5_ n6_ n7_ n8_ n9_ n10_ n11_ n12_; clear hb hbox hg; have hnb69 := NB219_175.out; have hnc69 := NB175_219.out; have hnb70 := NB219_201.out; have hnc70 := NB201_219.out; have hnb71 := NB219_183.out; have hnc71 := NB183_219.out; have hcz72_0 : w68.cell? ⟨gb219, 0, none⟩ = some (.int .i64 0) := (blk_cell BK219.out 0).trans rfl; have hcz72_1 : w68.cell? ⟨gb219, 1, none⟩ = some (.int .i64 0) := (blk_cell BK219.out 1).trans rfl; have hcz72_2 : w68.cell? ⟨gb219, 2, none⟩ = some (.int .i64 0) := (blk_cell BK219.out 2).trans rfl; have hcz72_3 : w68.cell? ⟨gb219, 3, none⟩ = some (.string (⟨#[]⟩ : ByteArray)) := (blk_cell BK219.out 3).trans rfl; have hfz72_0 := blk_frozen BK219.out 0; have hfz72_1 := blk_frozen BK219.out 1; have hfz72_2 := blk_frozen BK219.out 2; have hfz72_3 := blk_frozen BK219.out 3; have hnb73 := NB175_201.out; have hnc73 := NB201_175.out; have hnb74 := NB175_183.out; have hnc74 := NB183_175.out; have hcz75_0 : w68.cell? ⟨gb175, 0, none⟩ = some (.int .i64 a0_0) := (blk_cell BK175.out 0).trans rfl; have hcz75_1 : w68.cell? ⟨gb175, 1, none⟩ = some (.int .i64 a0_1) := (blk_cell BK175.out 1).trans rfl; have hcz75_2 : w68.cell? ⟨gb175, 2, none⟩ = some (.int .i64 a0_2) := (blk_cell BK175.out 2).trans rfl; have hcz75_3 : w68.cell? ⟨gb175, 3, none⟩ = some (.string a0_3) := (blk_cell BK175.out 3).trans rfl; have hfz75_0 := blk_frozen BK175.out 0; have hfz75_1 := blk_frozen BK175.out 1; have hfz75_2 := blk_frozen BK175.out 2; have hfz75_3 := blk_frozen BK175.out 3))
                              go_ret
                              exact ⟨by first | rfl | (simp [errW_none, errW_some] <;> rfl) | (simp [*, errW_none, errW_some] <;> rfl), by repeat (first | (with_reducible first | exact HB.out | apply below_alloc | apply pw_below_drewN | apply below_drew1 | refine below_set ?_ (IsS49.ge HI183.out) | refine below_set ?_ GE175.out | refine below_set ?_ GE201.out | refine below_set ?_ GE219.out) | exact HB.out)⟩
                          · rw [if_neg c54] at H
                            have c54b0 : (t215 == 0) = false := beq_eq_false_iff_ne.mpr c54
                            have c54b1 : (t215 != 0) = true := bne_iff_ne.mpr c54
                            obtain rfl := Option.some.inj H
                            go_wp2_with (first | ((with_reducible refine gate_callee (f := 11) rfl ?_); refine goesL_ (some 95) rfl rfl Try.func11 (by kernel_rfl) rfl #[.pointer (some ⟨g183, 0, none⟩)] rfl (by (try simp only [List.map_toArray, List.map_cons, List.map_nil]); first | done | rfl | (simp only [List.length_drop, List.length_take]; rfl)) ?_; (with_reducible refine (split_Splitter_Next.calls kj33 g183 x184000_33 x184001_33 x184002_33 t210 t211 t212 t213 true t215 t216 t217 t218 w _ ?side1 ?side2 A52.out).mono ?_); (case side1 => repeat (first | (with_reducible first | exact HI183.out | apply IsS49.alloc | apply IsS49.drewN | apply IsS49.drew | apply IsS49.set_0 | apply IsS49.set_1 | apply IsS49.set_2 | refine IsS49.far ?_ NB183_175.out _ | refine IsS49.far ?_ NB183_201.out _) | exact HI183.out)); (case side2 => repeat (first | (with_reducible first | exact HB.out | apply below_alloc | apply pw_below_drewN | apply below_drew1 | refine below_set ?_ (IsS49.ge HI183.out) | refine below_set ?_ GE175.out | refine below_set ?_ GE201.out) | exact HB.out)); rintro e w76 ⟨rfl, hi, hb, hk⟩; refine ⟨_, rfl, ?_⟩; have n0_ := Aside0.mk (KeepBut.blk hk (g' := gb175) (o := .cells #[.int .i64 a0_0, .int .i64 a0_1, .int .i64 a0_2, .string a0_3] 28 (0, 0)) (by (with_reducible repeat (first | refine blk_drewN ?_ _ | refine blk_drew ?_ | refine blk_alloc ?_ _)); exact BK175.out) NB175_183.out (by simp)); have n1_ := Aside0.mk (KeepBut.blk hk (g' := gb201) (o := .cells #[.int .i64 t192, .int .i64 t193, .int .i64 t194, .string t195] 28 (0, 0)) (by (with_reducible repeat (first | refine blk_drewN ?_ _ | refine blk_drew ?_ | refine blk_alloc ?_ _)); exact BK201.out) NB201_183.out (by simp)); have n2_ := Aside0.mk (hb); have n3_ := Aside0.mk (hi); clear BK175; clear BK201; clear HB; clear HI183; have BK175 := n0_; have BK201 := n1_; have HB := n2_; have HI183 := n3_; clear n0_ n1_ n2_ n3_; (try clear hb); (try clear hb2); (try clear hk); (try clear hi)) | ((with_reducible refine gate_dst (N := 12) rfl ?_); (try (refine gate_guard (by rfl) ?_; dsimp only)); refine box_event ?hg (N := 12) ?hd (cs := #[.int .i64 0, .int .i64 0, .int .i64 0, .string (⟨#[]⟩ : ByteArray)]) (t := 28) ?hr ?_; (case hd => rfl); (case hg => rfl); (case hr => first | (go_simp; done) | (go_simp; rfl)); intro gb219 hg w77 hbox hb; have n0_ := Aside0.mk (blk_below (g := gb175) (o := .cells #[.int .i64 a0_0, .int .i64 a0_1, .int .i64 a0_2, .string a0_3] 28 (0, 0)) (by (with_reducible repeat (first | refine blk_drewN ?_ _ | refine blk_drew ?_ | refine blk_alloc ?_ _)); exact BK175.out) hb); have n1_ := Aside0.mk (blk_below (g := gb201) (o := .cells #[.int .i64 t192, .int .i64 t193, .int .i64 t194, .string t195] 28 (0, 0)) (by (with_reducible repeat (first | refine blk_drewN ?_ _ | refine blk_drew ?_ | refine blk_alloc ?_ _)); exact BK201.out) hb); have n2_ := Aside0.mk (IsS49.below (by repeat (first | (with_reducible first | exact HI183.out | apply IsS49.alloc | apply IsS49.drewN | apply IsS49.drew | apply IsS49.set_0 | apply IsS49.set_1 | apply IsS49.set_2 | refine IsS49.far ?_ NB183_175.out _ | refine IsS49.far ?_ NB183_201.out _) | exact HI183.out)) hb); have n3_ := Aside0.mk (below_step (by repeat (first | (with_reducible first | exact HB.out | apply below_alloc | apply pw_below_drewN | apply below_drew1 | refine below_set ?_ (IsS49.ge HI183.out) | refine below_set ?_ GE175.out | refine below_set ?_ GE201.out) | exact HB.out)) hb); have n4_ := Aside0.mk (hbox); have n5_ := Aside0.mk ((by rw [hg]; exact (below_size (by repeat (first | (with_reducible first | exact HB.out | apply below_alloc | apply pw_below_drewN | apply below_drew1 | refine below_set ?_ (IsS49.ge HI183.out) | refine below_set ?_ GE175.out | refine below_set ?_ GE201.out) | exact HB.out))) : w.heap.size ≤ gb219)); have n6_ := Aside0.mk ((by rw [hg]; exact (below_size (by repeat (first | (with_reducible first | exact HB.out | apply below_alloc | apply pw_below_drewN | apply below_drew1 | refine below_set ?_ (IsS49.ge HI183.out) | refine below_set ?_ GE175.out | refine below_set ?_ GE201.out) | exact HB.out))) : w.heap.size ≤ gb219)); have n7_ := Aside0.mk ((by rw [hg]; exact Nat.ne_of_lt (blk_lt (g := gb175) (o := .cells #[.int .i64 a0_0, .int .i64 a0_1, .int .i64 a0_2, .string a0_3] 28 (0, 0)) (by (with_reducible repeat (first | refine blk_drewN ?_ _ | refine blk_drew ?_ | refine blk_alloc ?_ _)); exact BK175.out)) : gb175 ≠ gb219)); have n8_ := Aside0.mk ((by rw [hg]; exact Nat.ne_of_gt (blk_lt (g := gb175) (o := .cells #[.int .i64 a0_0, .int .i64 a0_1, .int .i64 a0_2, .string a0_3] 28 (0, 0)) (by (with_reducible repeat (first | refine blk_drewN ?_ _ | refine blk_drew ?_ | refine blk_alloc ?_ _)); exact BK175.out)) : gb219 ≠ gb175)); have n9_ := Aside0.mk ((by rw [hg]; exact Nat.ne_of_lt (blk_lt (g := gb201) (o := .cells #[.int .i64 t192, .int .i64 t193, .int .i64 t194, .string t195] 28 (0, 0)) (by (with_reducible repeat (first | refine blk_drewN ?_ _ | refine blk_drew ?_ | refine blk_alloc ?_ _)); exact BK201.out)) : gb201 ≠ gb219)); have n10_ := Aside0.mk ((by rw [hg]; exact Nat.ne_of_gt (blk_lt (g := gb201) (o := .cells #[.int .i64 t192, .int .i64 t193, .int .i64 t194, .string t195] 28 (0, 0)) (by (with_reducible repeat (first | refine blk_drewN ?_ _ | refine blk_drew ?_ | refine blk_alloc ?_ _)); exact BK201.out)) : gb219 ≠ gb201)); have n11_ := Aside0.mk ((by rw [hg]; exact Nat.ne_of_lt (IsS49.lt (show IsS49 w _ g183 t216 t217 t218 from by repeat (first | (with_reducible first | exact HI183.out | apply IsS49.alloc | apply IsS49.drewN | apply IsS49.drew | apply IsS49.set_0 | apply IsS49.set_1 | apply IsS49.set_2 | refine IsS49.far ?_ NB183_175.out _ | refine IsS49.far ?_ NB183_201.out _) | exact HI183.out))) : g183 ≠ gb219)); have n12_ := Aside0.mk ((by rw [hg]; exact Nat.ne_of_gt (IsS49.lt (show IsS49 w _ g183 t216 t217 t218 from by repeat (first | (with_reducible first | exact HI183.out | apply IsS49.alloc | apply IsS49.drewN | apply IsS49.drew | apply IsS49.set_0 | apply IsS49.set_1 | apply IsS49.set_2 | refine IsS49.far ?_ NB183_175.out _ | refine IsS49.far ?_ NB183_201.out _) | exact HI183.out))) : gb219 ≠ g183)); clear BK175; clear BK201; clear HI183; clear HB; have BK175 := n0_; have BK201 := n1_; have HI183 := n2_; have HB := n3_; have BK219 := n4_; have GW219 := n5_; have GE219 := n6_; have NB175_219 := n7_; have NB219_175 := n8_; have NB201_219 := n9_; have NB219_201 := n10_; have NB183_219 := n11_; have NB219_183 := n12_; clear n0_ n1_ n2_ n3_ n4_ n5_ n6_ n7_ n8_ n9_ n10_ n11_ n12_; clear hb hbox hg; have hnb78 := NB219_175.out; have hnc78 := NB175_219.out; have hnb79 := NB219_201.out; have hnc79 := NB201_219.out; have hnb80 := NB219_183.out; have hnc80 := NB183_219.out; have hcz81_0 : w77.cell? ⟨gb219, 0, none⟩ = some (.int .i64 0) := (blk_cell BK219.out 0).trans rfl; have hcz81_1 : w77.cell? ⟨gb219, 1, none⟩ = some (.int .i64 0) := (blk_cell BK219.out 1).trans rfl; have hcz81_2 : w77.cell? ⟨gb219, 2, none⟩ = some (.int .i64 0) := (blk_cell BK219.out 2).trans rfl; have hcz81_3 : w77.cell? ⟨gb219, 3, none⟩ = some (.string (⟨#[]⟩ : ByteArray)) := (blk_cell BK219.out 3).trans rfl; have hfz81_0 := blk_frozen BK219.out 0; have hfz81_1 := blk_frozen BK219.out 1; have hfz81_2 := blk_frozen BK219.out 2; have hfz81_3 := blk_frozen BK219.out 3))
                            go_ret
                            exact ⟨by first | rfl | (simp [errW_none, errW_some] <;> rfl) | (simp [*, errW_none, errW_some] <;> rfl), by repeat (first | (with_reducible first | exact HB.out | apply below_alloc | apply pw_below_drewN | apply below_drew1 | refine below_set ?_ (IsS49.ge HI183.out) | refine below_set ?_ GE175.out | refine below_set ?_ GE201.out | refine below_set ?_ GE219.out) | exact HB.out)⟩
                        · replace c53 := Bool.eq_false_iff.mpr c53
                          subst c53
                          have H1 : (some false) = some r := by rw [if_neg (show ¬ (false = true) by decide)] at H; exact H
                          clear H
                          have H := H1
                          clear H1
                          obtain rfl := Option.some.inj H
                          go_wp2_with (first | ((with_reducible refine gate_callee (f := 11) rfl ?_); refine goesL_ (some 95) rfl rfl Try.func11 (by kernel_rfl) rfl #[.pointer (some ⟨g183, 0, none⟩)] rfl (by (try simp only [List.map_toArray, List.map_cons, List.map_nil]); first | done | rfl | (simp only [List.length_drop, List.length_take]; rfl)) ?_; (with_reducible refine (split_Splitter_Next.calls kj33 g183 x184000_33 x184001_33 x184002_33 t210 t211 t212 t213 false t215 t216 t217 t218 w _ ?side1 ?side2 A52.out).mono ?_); (case side1 => repeat (first | (with_reducible first | exact HI183.out | apply IsS49.alloc | apply IsS49.drewN | apply IsS49.drew | apply IsS49.set_0 | apply IsS49.set_1 | apply IsS49.set_2 | refine IsS49.far ?_ NB183_175.out _ | refine IsS49.far ?_ NB183_201.out _) | exact HI183.out)); (case side2 => repeat (first | (with_reducible first | exact HB.out | apply below_alloc | apply pw_below_drewN | apply below_drew1 | refine below_set ?_ (IsS49.ge HI183.out) | refine below_set ?_ GE175.out | refine below_set ?_ GE201.out) | exact HB.out)); rintro e w82 ⟨rfl, hi, hb, hk⟩; refine ⟨_, rfl, ?_⟩; have n0_ := Aside0.mk (KeepBut.blk hk (g' := gb175) (o := .cells #[.int .i64 a0_0, .int .i64 a0_1, .int .i64 a0_2, .string a0_3] 28 (0, 0)) (by (with_reducible repeat (first | refine blk_drewN ?_ _ | refine blk_drew ?_ | refine blk_alloc ?_ _)); exact BK175.out) NB175_183.out (by simp)); have n1_ := Aside0.mk (KeepBut.blk hk (g' := gb201) (o := .cells #[.int .i64 t192, .int .i64 t193, .int .i64 t194, .string t195] 28 (0, 0)) (by (with_reducible repeat (first | refine blk_drewN ?_ _ | refine blk_drew ?_ | refine blk_alloc ?_ _)); exact BK201.out) NB201_183.out (by simp)); have n2_ := Aside0.mk (hb); have n3_ := Aside0.mk (hi); clear BK175; clear BK201; clear HB; clear HI183; have BK175 := n0_; have BK201 := n1_; have HB := n2_; have HI183 := n3_; clear n0_ n1_ n2_ n3_; (try clear hb); (try clear hb2); (try clear hk); (try clear hi)) | ((with_reducible refine gate_dst (N := 12) rfl ?_); (try (refine gate_guard (by rfl) ?_; dsimp only)); refine box_event ?hg (N := 12) ?hd (cs := #[.int .i64 0, .int .i64 0, .int .i64 0, .string (⟨#[]⟩ : ByteArray)]) (t := 28) ?hr ?_; (case hd => rfl); (case hg => rfl); (case hr => first | (go_simp; done) | (go_simp; rfl)); intro gb219 hg w83 hbox hb; have n0_ := Aside0.mk (blk_below (g := gb175) (o := .cells #[.int .i64 a0_0, .int .i64 a0_1, .int .i64 a0_2, .string a0_3] 28 (0, 0)) (by (with_reducible repeat (first | refine blk_drewN ?_ _ | refine blk_drew ?_ | refine blk_alloc ?_ _)); exact BK175.out) hb); have n1_ := Aside0.mk (blk_below (g := gb201) (o := .cells #[.int .i64 t192, .int .i64 t193, .int .i64 t194, .string t195] 28 (0, 0)) (by (with_reducible repeat (first | refine blk_drewN ?_ _ | refine blk_drew ?_ | refine blk_alloc ?_ _)); exact BK201.out) hb); have n2_ := Aside0.mk (IsS49.below (by repeat (first | (with_reducible first | exact HI183.out | apply IsS49.alloc | apply IsS49.drewN | apply IsS49.drew | apply IsS49.set_0 | apply IsS49.set_1 | apply IsS49.set_2 | refine IsS49.far ?_ NB183_175.out _ | refine IsS49.far ?_ NB183_201.out _) | exact HI183.out)) hb); have n3_ := Aside0.mk (below_step (by repeat (first | (with_reducible first | exact HB.out | apply below_alloc | apply pw_below_drewN | apply below_drew1 | refine below_set ?_ (IsS49.ge HI183.out) | refine below_set ?_ GE175.out | refine below_set ?_ GE201.out) | exact HB.out)) hb); have n4_ := Aside0.mk (hbox); have n5_ := Aside0.mk ((by rw [hg]; exact (below_size (by repeat (first | (with_reducible first | exact HB.out | apply below_alloc | apply pw_below_drewN | apply below_drew1 | refine below_set ?_ (IsS49.ge HI183.out) | refine below_set ?_ GE175.out | refine below_set ?_ GE201.out) | exact HB.out))) : w.heap.size ≤ gb219)); have n6_ := Aside0.mk ((by rw [hg]; exact (below_size (by repeat (first | (with_reducible first | exact HB.out | apply below_alloc | apply pw_below_drewN | apply below_drew1 | refine below_set ?_ (IsS49.ge HI183.out) | refine below_set ?_ GE175.out | refine below_set ?_ GE201.out) | exact HB.out))) : w.heap.size ≤ gb219)); have n7_ := Aside0.mk ((by rw [hg]; exact Nat.ne_of_lt (blk_lt (g := gb175) (o := .cells #[.int .i64 a0_0, .int .i64 a0_1, .int .i64 a0_2, .string a0_3] 28 (0, 0)) (by (with_reducible repeat (first | refine blk_drewN ?_ _ | refine blk_drew ?_ | refine blk_alloc ?_ _)); exact BK175.out)) : gb175 ≠ gb219)); have n8_ := Aside0.mk ((by rw [hg]; exact Nat.ne_of_gt (blk_lt (g := gb175) (o := .cells #[.int .i64 a0_0, .int .i64 a0_1, .int .i64 a0_2, .string a0_3] 28 (0, 0)) (by (with_reducible repeat (first | refine blk_drewN ?_ _ | refine blk_drew ?_ | refine blk_alloc ?_ _)); exact BK175.out)) : gb219 ≠ gb175)); have n9_ := Aside0.mk ((by rw [hg]; exact Nat.ne_of_lt (blk_lt (g := gb201) (o := .cells #[.int .i64 t192, .int .i64 t193, .int .i64 t194, .string t195] 28 (0, 0)) (by (with_reducible repeat (first | refine blk_drewN ?_ _ | refine blk_drew ?_ | refine blk_alloc ?_ _)); exact BK201.out)) : gb201 ≠ gb219)); have n10_ := Aside0.mk ((by rw [hg]; exact Nat.ne_of_gt (blk_lt (g := gb201) (o := .cells #[.int .i64 t192, .int .i64 t193, .int .i64 t194, .string t195] 28 (0, 0)) (by (with_reducible repeat (first | refine blk_drewN ?_ _ | refine blk_drew ?_ | refine blk_alloc ?_ _)); exact BK201.out)) : gb219 ≠ gb201)); have n11_ := Aside0.mk ((by rw [hg]; exact Nat.ne_of_lt (IsS49.lt (show IsS49 w _ g183 t216 t217 t218 from by repeat (first | (with_reducible first | exact HI183.out | apply IsS49.alloc | apply IsS49.drewN | apply IsS49.drew | apply IsS49.set_0 | apply IsS49.set_1 | apply IsS49.set_2 | refine IsS49.far ?_ NB183_175.out _ | refine IsS49.far ?_ NB183_201.out _) | exact HI183.out))) : g183 ≠ gb219)); have n12_ := Aside0.mk ((by rw [hg]; exact Nat.ne_of_gt (IsS49.lt (show IsS49 w _ g183 t216 t217 t218 from by repeat (first | (with_reducible first | exact HI183.out | apply IsS49.alloc | apply IsS49.drewN | apply IsS49.drew | apply IsS49.set_0 | apply IsS49.set_1 | apply IsS49.set_2 | refine IsS49.far ?_ NB183_175.out _ | refine IsS49.far ?_ NB183_201.out _) | exact HI183.out))) : gb219 ≠ g183)); clear BK175; clear BK201; clear HI183; clear HB; have BK175 := n0_; have BK201 := n1_; have HI183 := n2_; have HB := n3_; have BK219 := n4_; have GW219 := n5_; have GE219 := n6_; have NB175_219 := n7_; have NB219_175 := n8_; have NB201_219 := n9_; have NB219_201 := n10_; have NB183_219 := n11_; have NB219_183 := n12_; clear n0_ n1_ n2_ n3_ n4_ n5_ n6_ n7_ n8_ n9_ n10_ n11_ n12_; clear hb hbox hg; have hnb84 := NB219_175.out; have hnc84 := NB175_219.out; have hnb85 := NB219_201.out; have hnc85 := NB201_219.out; have hnb86 := NB219_183.out; have hnc86 := NB183_219.out; have hcz87_0 : w83.cell? ⟨gb219, 0, none⟩ = some (.int .i64 0) := (blk_cell BK219.out 0).trans rfl; have hcz87_1 : w83.cell? ⟨gb219, 1, none⟩ = some (.int .i64 0) := (blk_cell BK219.out 1).trans rfl; have hcz87_2 : w83.cell? ⟨gb219, 2, none⟩ = some (.int .i64 0) := (blk_cell BK219.out 2).trans rfl; have hcz87_3 : w83.cell? ⟨gb219, 3, none⟩ = some (.string (⟨#[]⟩ : ByteArray)) := (blk_cell BK219.out 3).trans rfl; have hfz87_0 := blk_frozen BK219.out 0; have hfz87_1 := blk_frozen BK219.out 1; have hfz87_2 := blk_frozen BK219.out 2; have hfz87_3 := blk_frozen BK219.out 3))
                          go_ret
                          exact ⟨by first | rfl | (simp [errW_none, errW_some] <;> rfl) | (simp [*, errW_none, errW_some] <;> rfl), by repeat (first | (with_reducible first | exact HB.out | apply below_alloc | apply pw_below_drewN | apply below_drew1 | refine below_set ?_ (IsS49.ge HI183.out) | refine below_set ?_ GE175.out | refine below_set ?_ GE201.out | refine below_set ?_ GE219.out) | exact HB.out)⟩

end Go.Proofs.Ytcbikdnibjjnbaa.PSplitHolds
