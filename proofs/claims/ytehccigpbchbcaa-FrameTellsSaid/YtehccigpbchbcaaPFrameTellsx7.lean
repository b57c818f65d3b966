-- Written by a program of this session (the kit's printer, turned): the functions that the law reaches.
import Derived.Test.YtehccigpbchbcaaPFrameTellsx0
import Derived.Test.YtehccigpbchbcaaPFrameTellsx1
import Derived.Test.YtehccigpbchbcaaPFrameTellsx2
import Derived.Test.YtehccigpbchbcaaPFrameTellsx3
import Derived.Test.YtehccigpbchbcaaPFrameTellsx4
import Derived.Test.YtehccigpbchbcaaPFrameTellsx5
import Derived.Test.YtehccigpbchbcaaPFrameTellsx6
namespace Go.Proofs.Ytehccigpbchbcaa.PFrameTells
open Go.RowKit Go.Proofs.YtehccigpbchbcaaW.PrintWords Go.Proofs.YtehccigpbchbcaaW.PrintLast Go.Proofs.YtehccigpbchbcaaW.PrintMore
attribute [local go_sem] max2_int min2_int max_two min_two max_three min_three max_four min_four   -- for this text's walks alone
set_option linter.unusedVariables false
set_option linter.unusedSimpArgs false

attribute [local go_sem high] eqA23
/-! ### bywashlaw7_FrameTells: function 3 -/
mutual
def bywashlaw7_FrameTells.j0 : Nat → ByteArray → Int → Bool → Int → Int → Int → ByteArray → Option (Bool)
  | 0, _, _, _, _, _, _, _ => none
  | k + 1, x1, x2, x38, x157000, x157001, x157002, x157003 => if x38 = true then ((bywashlaw7_alive.f k).bind fun t158 => (some t158)) else ((frame_Put.f k x157000 x157001 x157002 x157003).bind fun bt159 => ((bywashref1_FramePut.f k x157000 x157001 x157002 x157003).bind fun bt161 => ((frame_Get.f k x1).bind fun bt163 => ((bywashref1_FrameGet.f k x1).bind fun bt170 => ((frame_Strip.f k x157000 x157001 x157002 x157003).bind fun bt177 => ((bywashref1_Strip.f k x157000 x157001 x157002 x157003).bind fun bt180 => (if bt159.1.toList = bt161.1.toList then (if bt159.2 = true then (if bt161.2 = true then ((frame_Right.f x157000 x157001 x157002 x157003).bind fun t183 => (if t183 = true then (if (!(bt163.1 == bt170.1) || (!(bt163.2.1 == bt170.2.1) || (!(bt163.2.2.1 == bt170.2.2.1) || (!(bt163.2.2.2.1.toList == bt170.2.2.2.1.toList))))) = true then (bywashlaw7_FrameTells.j1 k x1 bt159.1 bt159.2 true x157000 x157001 x157002 x157003) else (if bt163.2.2.2.2.1 = bt170.2.2.2.2.1 then (if bt163.2.2.2.2.2 = bt170.2.2.2.2.2 then (if bt177.1.toList = bt180.1.toList then (if bt177.2.1 = bt180.2.1 then (if bt177.2.2 = bt180.2.2 then ((frame_Name.f x2).bind fun t184 => ((bywashref1_FrameName.f x2).bind fun t185 => (bywashlaw7_FrameTells.j1 k x1 bt159.1 bt159.2 (t184.toList != t185.toList) x157000 x157001 x157002 x157003))) else (bywashlaw7_FrameTells.j1 k x1 bt159.1 bt159.2 true x157000 x157001 x157002 x157003)) else (bywashlaw7_FrameTells.j1 k x1 bt159.1 bt159.2 true x157000 x157001 x157002 x157003)) else (bywashlaw7_FrameTells.j1 k x1 bt159.1 bt159.2 true x157000 x157001 x157002 x157003)) else (bywashlaw7_FrameTells.j1 k x1 bt159.1 bt159.2 true x157000 x157001 x157002 x157003)) else (bywashlaw7_FrameTells.j1 k x1 bt159.1 bt159.2 true x157000 x157001 x157002 x157003))) else (bywashlaw7_FrameTells.j1 k x1 bt159.1 bt159.2 true x157000 x157001 x157002 x157003))) else (bywashlaw7_FrameTells.j1 k x1 bt159.1 bt159.2 true x157000 x157001 x157002 x157003)) else (if bt161.2 = true then (bywashlaw7_FrameTells.j1 k x1 bt159.1 bt159.2 true x157000 x157001 x157002 x157003) else ((frame_Right.f x157000 x157001 x157002 x157003).bind fun t186 => (if t186 = true then (bywashlaw7_FrameTells.j1 k x1 bt159.1 bt159.2 true x157000 x157001 x157002 x157003) else (if (!(bt163.1 == bt170.1) || (!(bt163.2.1 == bt170.2.1) || (!(bt163.2.2.1 == bt170.2.2.1) || (!(bt163.2.2.2.1.toList == bt170.2.2.2.1.toList))))) = true then (bywashlaw7_FrameTells.j1 k x1 bt159.1 bt159.2 true x157000 x157001 x157002 x157003) else (if bt163.2.2.2.2.1 = bt170.2.2.2.2.1 then (if bt163.2.2.2.2.2 = bt170.2.2.2.2.2 then (if bt177.1.toList = bt180.1.toList then (if bt177.2.1 = bt180.2.1 then (if bt177.2.2 = bt180.2.2 then ((frame_Name.f x2).bind fun t187 => ((bywashref1_FrameName.f x2).bind fun t188 => (bywashlaw7_FrameTells.j1 k x1 bt159.1 bt159.2 (t187.toList != t188.toList) x157000 x157001 x157002 x157003))) else (bywashlaw7_FrameTells.j1 k x1 bt159.1 bt159.2 true x157000 x157001 x157002 x157003)) else (bywashlaw7_FrameTells.j1 k x1 bt159.1 bt159.2 true x157000 x157001 x157002 x157003)) else (bywashlaw7_FrameTells.j1 k x1 bt159.1 bt159.2 true x157000 x157001 x157002 x157003)) else (bywashlaw7_FrameTells.j1 k x1 bt159.1 bt159.2 true x157000 x157001 x157002 x157003)) else (bywashlaw7_FrameTells.j1 k x1 bt159.1 bt159.2 true x157000 x157001 x157002 x157003))))))) else (bywashlaw7_FrameTells.j1 k x1 bt159.1 bt159.2 true x157000 x157001 x157002 x157003))))))))
def bywashlaw7_FrameTells.j1 : Nat → ByteArray → ByteArray → Bool → Bool → Int → Int → Int → ByteArray → Option (Bool)
  | 0, _, _, _, _, _, _, _, _ => none
  | k + 1, x1, x7, x8, x124, x157000, x157001, x157002, x157003 => if x124 = true then (some false) else (if x8 = true then (if x7.size + x1.size ≤ 9223372036854775807 then ((frame_Get.f k (x7 ++ x1)).bind fun bt189 => (if bt189.2.2.2.2.2 = 0 then (if (bt189.1 == x157000 && (bt189.2.1 == x157001 && (bt189.2.2.1 == x157002 && (bt189.2.2.2.1.toList == x157003.toList)))) = true then (bywashlaw7_FrameTells.j2 k (bt189.2.2.2.2.1 == (x7.size : Int))) else (bywashlaw7_FrameTells.j2 k false)) else (bywashlaw7_FrameTells.j2 k false))) else (none)) else (some true))
def bywashlaw7_FrameTells.j2 : Nat → Bool → Option (Bool)
  | 0, _ => none
  | k + 1, x6 => some x6
end
def bywashlaw7_FrameTells.f (k : Nat) (a0_0 : Int) (a0_1 : Int) (a0_2 : Int) (a0_3 : ByteArray) (a1 : ByteArray) (a2 : Int) : Option (Bool) := if (a0_3.size : Int) > 2000 then (bywashlaw7_FrameTells.j0 k a1 a2 true a0_0 a0_1 a0_2 a0_3) else (if (a1.size : Int) > 400 then (bywashlaw7_FrameTells.j0 k a1 a2 true a0_0 a0_1 a0_2 a0_3) else ((bywashlaw7_alive.f k).bind fun t157 => (bywashlaw7_FrameTells.j0 k a1 a2 (!t157) a0_0 a0_1 a0_2 a0_3)))
theorem bywashlaw7_FrameTells.mono_l : ∀ k, (∀ y0 y1 y2 y3 y4 y5 y6, LeO (bywashlaw7_FrameTells.j0 k y0 y1 y2 y3 y4 y5 y6) (bywashlaw7_FrameTells.j0 (k + 1) y0 y1 y2 y3 y4 y5 y6)) ∧ (∀ y0 y1 y2 y3 y4 y5 y6 y7, LeO (bywashlaw7_FrameTells.j1 k y0 y1 y2 y3 y4 y5 y6 y7) (bywashlaw7_FrameTells.j1 (k + 1) y0 y1 y2 y3 y4 y5 y6 y7)) ∧ (∀ y0, LeO (bywashlaw7_FrameTells.j2 k y0) (bywashlaw7_FrameTells.j2 (k + 1) y0))
  | 0 => ⟨fun _ _ _ _ _ _ _ r h => by simp [bywashlaw7_FrameTells.j0] at h, fun _ _ _ _ _ _ _ _ r h => by simp [bywashlaw7_FrameTells.j1] at h, fun _ r h => by simp [bywashlaw7_FrameTells.j2] at h⟩
  | k + 1 => by
    obtain ⟨ih0, ih1, ih2⟩ := bywashlaw7_FrameTells.mono_l k
    refine ⟨?_, ?_, ?_⟩
    · intro y0 y1 y2 y3 y4 y5 y6
      unfold bywashlaw7_FrameTells.j0
      repeat' first
      | (with_reducible exact ih0 _ _ _ _ _ _ _)
      | (with_reducible exact ih1 _ _ _ _ _ _ _ _)
      | (with_reducible exact ih2 _)
      | (with_reducible exact bywashlaw7_alive.mono _)
      | (with_reducible exact bywashref1_FrameGet.mono _ _)
      | (with_reducible exact bywashref1_FramePut.mono _ _ _ _ _)
      | (with_reducible exact bywashref1_Strip.mono _ _ _ _ _)
      | (with_reducible exact frame_Get.mono _ _)
      | (with_reducible exact frame_Put.mono _ _ _ _ _)
      | (with_reducible exact frame_Strip.mono _ _ _ _ _)
      | (with_reducible exact LeO.refl _)
      | (with_reducible exact LeO.none _)
      | (with_reducible refine LeO.ite ?_ ?_)
      | (with_reducible refine LeO.bind ?_ (fun _ => ?_))
      | exact ih0 _ _ _ _ _ _ _
      | exact ih1 _ _ _ _ _ _ _ _
      | exact ih2 _
      | exact bywashlaw7_alive.mono _
      | exact bywashref1_FrameGet.mono _ _
      | exact bywashref1_FramePut.mono _ _ _ _ _
      | exact bywashref1_Strip.mono _ _ _ _ _
      | exact frame_Get.mono _ _
      | exact frame_Put.mono _ _ _ _ _
      | exact frame_Strip.mono _ _ _ _ _
      | exact LeO.none _
      | refine LeO.ite ?_ ?_
      | refine LeO.bind ?_ (fun _ => ?_)
    · intro y0 y1 y2 y3 y4 y5 y6 y7
      unfold bywashlaw7_FrameTells.j1
      repeat' first
      | (with_reducible exact ih0 _ _ _ _ _ _ _)
      | (with_reducible exact ih1 _ _ _ _ _ _ _ _)
      | (with_reducible exact ih2 _)
      | (with_reducible exact bywashlaw7_alive.mono _)
      | (with_reducible exact bywashref1_FrameGet.mono _ _)
      | (with_reducible exact bywashref1_FramePut.mono _ _ _ _ _)
      | (with_reducible exact bywashref1_Strip.mono _ _ _ _ _)
      | (with_reducible exact frame_Get.mono _ _)
      | (with_reducible exact frame_Put.mono _ _ _ _ _)
      | (with_reducible exact frame_Strip.mono _ _ _ _ _)
      | (with_reducible exact LeO.refl _)
      | (with_reducible exact LeO.none _)
      | (with_reducible refine LeO.ite ?_ ?_)
      | (with_reducible refine LeO.bind ?_ (fun _ => ?_))
      | exact ih0 _ _ _ _ _ _ _
      | exact ih1 _ _ _ _ _ _ _ _
      | exact ih2 _
      | exact bywashlaw7_alive.mono _
      | exact bywashref1_FrameGet.mono _ _
      | exact bywashref1_FramePut.mono _ _ _ _ _
      | exact bywashref1_Strip.mono _ _ _ _ _
      | exact frame_Get.mono _ _
      | exact frame_Put.mono _ _ _ _ _
      | exact frame_Strip.mono _ _ _ _ _
      | exact LeO.none _
      | refine LeO.ite ?_ ?_
      | refine LeO.bind ?_ (fun _ => ?_)
    · intro y0
      unfold bywashlaw7_FrameTells.j2
      repeat' first
      | (with_reducible exact ih0 _ _ _ _ _ _ _)
      | (with_reducible exact ih1 _ _ _ _ _ _ _ _)
      | (with_reducible exact ih2 _)
      | (with_reducible exact bywashlaw7_alive.mono _)
      | (with_reducible exact bywashref1_FrameGet.mono _ _)
      | (with_reducible exact bywashref1_FramePut.mono _ _ _ _ _)
      | (with_reducible exact bywashref1_Strip.mono _ _ _ _ _)
      | (with_reducible exact frame_Get.mono _ _)
      | (with_reducible exact frame_Put.mono _ _ _ _ _)
      | (with_reducible exact frame_Strip.mono _ _ _ _ _)
      | (with_reducible exact LeO.refl _)
      | (with_reducible exact LeO.none _)
      | (with_reducible refine LeO.ite ?_ ?_)
      | (with_reducible refine LeO.bind ?_ (fun _ => ?_))
      | exact ih0 _ _ _ _ _ _ _
      | exact ih1 _ _ _ _ _ _ _ _
      | exact ih2 _
      | exact bywashlaw7_alive.mono _
      | exact bywashref1_FrameGet.mono _ _
      | exact bywashref1_FramePut.mono _ _ _ _ _
      | exact bywashref1_Strip.mono _ _ _ _ _
      | exact frame_Get.mono _ _
      | exact frame_Put.mono _ _ _ _ _
      | exact frame_Strip.mono _ _ _ _ _
      | exact LeO.none _
      | refine LeO.ite ?_ ?_
      | refine LeO.bind ?_ (fun _ => ?_)
theorem bywashlaw7_FrameTells.mono : ∀ a0 a1 a2 a3 a4 a5 k, LeO (bywashlaw7_FrameTells.f k a0 a1 a2 a3 a4 a5) (bywashlaw7_FrameTells.f (k + 1) a0 a1 a2 a3 a4 a5) := by
  intro a0 a1 a2 a3 a4 a5 k
  obtain ⟨ih0, ih1, ih2⟩ := bywashlaw7_FrameTells.mono_l k
  unfold bywashlaw7_FrameTells.f
  repeat' first
      | (with_reducible exact ih0 _ _ _ _ _ _ _)
      | (with_reducible exact ih1 _ _ _ _ _ _ _ _)
      | (with_reducible exact ih2 _)
      | (with_reducible exact bywashlaw7_alive.mono _)
      | (with_reducible exact bywashref1_FrameGet.mono _ _)
      | (with_reducible exact bywashref1_FramePut.mono _ _ _ _ _)
      | (with_reducible exact bywashref1_Strip.mono _ _ _ _ _)
      | (with_reducible exact frame_Get.mono _ _)
      | (with_reducible exact frame_Put.mono _ _ _ _ _)
      | (with_reducible exact frame_Strip.mono _ _ _ _ _)
      | (with_reducible exact LeO.refl _)
      | (with_reducible exact LeO.none _)
      | (with_reducible refine LeO.ite ?_ ?_)
      | (with_reducible refine LeO.bind ?_ (fun _ => ?_))
      | exact ih0 _ _ _ _ _ _ _
      | exact ih1 _ _ _ _ _ _ _ _
      | exact ih2 _
      | exact bywashlaw7_alive.mono _
      | exact bywashref1_FrameGet.mono _ _
      | exact bywashref1_FramePut.mono _ _ _ _ _
      | exact bywashref1_Strip.mono _ _ _ _ _
      | exact frame_Get.mono _ _
      | exact frame_Put.mono _ _ _ _ _
      | exact frame_Strip.mono _ _ _ _ _
      | exact LeO.none _
      | refine LeO.ite ?_ ?_
      | refine LeO.bind ?_ (fun _ => ?_)
set_option maxHeartbeats 8000000 in
set_option maxRecDepth 100000 in
theorem bywashlaw7_FrameTells.calls (k : Nat) (a0_0 : Int) (a0_1 : Int) (a0_2 : Int) (a0_3 : ByteArray) (a1 : ByteArray) (a2 : Int) (r : Bool) (w : World) (h : bywashlaw7_FrameTells.f k a0_0 a0_1 a0_2 a0_3 a1 a2 = some r) :
    Calls Try.prog 3 #[.agg #[.int .i64 a0_0, .int .i64 a0_1, .int .i64 a0_2, .string a0_3], .string a1, .int .i64 a2] w fun e w' => e = .returned (.bool r) ∧ Below w.heap.size w w' := by
  have hu23 := Try.underlying23
  have HB := Aside0.mk (Below.refl w.heap.size w)
  have H : (if (a0_3.size : Int) > 2000 then (bywashlaw7_FrameTells.j0 k a1 a2 true a0_0 a0_1 a0_2 a0_3) else (if (a1.size : Int) > 400 then (bywashlaw7_FrameTells.j0 k a1 a2 true a0_0 a0_1 a0_2 a0_3) else ((bywashlaw7_alive.f k).bind fun t157 => (bywashlaw7_FrameTells.j0 k a1 a2 (!t157) a0_0 a0_1 a0_2 a0_3)))) = some r := h
  clear h
  have HC4 := Aside0.mk H
  clear H
  go_enter Try.func3, Try.ntmps3
  go_upto_region 1 with (first | ((with_reducible refine gate_dst (N := 3) rfl ?_); (try (refine gate_guard (by rfl) ?_; dsimp only)); refine box_event ?hg (N := 3) ?hd (cs := #[.int .i64 a0_0, .int .i64 a0_1, .int .i64 a0_2, .string a0_3]) (t := 23) ?hr ?_; (case hd => rfl); (case hg => rfl); (case hr => first | (go_simp; done) | (go_simp; rfl)); intro gb156 hg w5 hbox hb; have n0_ := Aside0.mk (below_step (by repeat (first | (with_reducible first | exact HB.out | apply below_alloc | apply pw_below_drewN | apply below_drew1) | exact HB.out)) hb); have n1_ := Aside0.mk (hbox); have n2_ := Aside0.mk ((by rw [hg]; exact (below_size (by repeat (first | (with_reducible first | exact HB.out | apply below_alloc | apply pw_below_drewN | apply below_drew1) | exact HB.out))) : w.heap.size ≤ gb156)); have n3_ := Aside0.mk ((by rw [hg]; exact (below_size (by repeat (first | (with_reducible first | exact HB.out | apply below_alloc | apply pw_below_drewN | apply below_drew1) | exact HB.out))) : w.heap.size ≤ gb156)); clear HB; have HB := n0_; have BK156 := n1_; have GW156 := n2_; have GE156 := n3_; clear n0_ n1_ n2_ n3_; clear hb hbox hg))
  (try simp only [Act.put, List.setIfInBounds_toArray, List.set_cons_zero, List.set_cons_succ])
  go_cut [38] (fun v38 wc => ∃ (kq : Nat) (x38_3 : Bool), v38 = .bool x38_3 ∧ Aside0 (bywashlaw7_FrameTells.j0 kq a1 a2 x38_3 a0_0 a0_1 a0_2 a0_3 = some r) ∧ Aside0 (kq ≤ k) ∧ Aside0 (wc.heap[gb156]? = some (.cells #[.int .i64 a0_0, .int .i64 a0_1, .int .i64 a0_2, .string a0_3] 23 (0, 0))) ∧ Aside0 (Below w.heap.size w wc))
  case first =>
    have H := HC4.out
    clear HC4
    by_cases c6 : (a0_3.size : Int) > 2000
    · rw [if_pos c6] at H
      have c6b0 : decide (2000 < (a0_3.size : Int)) = true := decide_eq_true c6
      have c6b1 : decide (2000 < a0_3.size) = true := decide_eq_true (by omega)
      clear c6
      (first | rw [c6b0] | (simp only [i64_w, i32_w]; rw [c6b0]) | skip)
      have H' := Aside0.mk H
      clear H
      have hcz7_0 : w5.cell? ⟨gb156, 0, none⟩ = some (.int .i64 a0_0) := (blk_cell BK156.out 0).trans rfl
      have hcz7_1 : w5.cell? ⟨gb156, 1, none⟩ = some (.int .i64 a0_1) := (blk_cell BK156.out 1).trans rfl
      have hcz7_2 : w5.cell? ⟨gb156, 2, none⟩ = some (.int .i64 a0_2) := (blk_cell BK156.out 2).trans rfl
      have hcz7_3 : w5.cell? ⟨gb156, 3, none⟩ = some (.string a0_3) := (blk_cell BK156.out 3).trans rfl
      have hfz7_0 := blk_frozen BK156.out 0
      have hfz7_1 := blk_frozen BK156.out 1
      have hfz7_2 := blk_frozen BK156.out 2
      have hfz7_3 := blk_frozen BK156.out 3
      go_wp2
      go_meet
      case rel => exact ⟨_, (true), (by first | rfl | (simp; done) | (simp [*]; done)), H', ⟨by first | omega | exact Nat.le_refl _⟩, ⟨by (with_reducible repeat (first | refine blk_drewN ?_ _ | refine blk_drew ?_ | refine blk_alloc ?_ _)); exact BK156.out⟩, ⟨by repeat (first | (with_reducible first | exact HB.out | apply below_alloc | apply pw_below_drewN | apply below_drew1 | refine below_set ?_ GE156.out) | exact HB.out)⟩⟩
    · rw [if_neg c6] at H
      have c6b0 : decide (2000 < (a0_3.size : Int)) = false := decide_eq_false c6
      have c6b1 : decide (2000 < a0_3.size) = false := decide_eq_false (by omega)
      clear c6
      (first | rw [c6b0] | (simp only [i64_w, i32_w]; rw [c6b0]) | skip)
      by_cases c8 : (a1.size : Int) > 400
      · rw [if_pos c8] at H
        have c8b0 : decide (400 < (a1.size : Int)) = true := decide_eq_true c8
        have c8b1 : decide (400 < a1.size) = true := decide_eq_true (by omega)
        clear c8
        have H' := Aside0.mk H
        clear H
        have hcz9_0 : w5.cell? ⟨gb156, 0, none⟩ = some (.int .i64 a0_0) := (blk_cell BK156.out 0).trans rfl
        have hcz9_1 : w5.cell? ⟨gb156, 1, none⟩ = some (.int .i64 a0_1) := (blk_cell BK156.out 1).trans rfl
        have hcz9_2 : w5.cell? ⟨gb156, 2, none⟩ = some (.int .i64 a0_2) := (blk_cell BK156.out 2).trans rfl
        have hcz9_3 : w5.cell? ⟨gb156, 3, none⟩ = some (.string a0_3) := (blk_cell BK156.out 3).trans rfl
        have hfz9_0 := blk_frozen BK156.out 0
        have hfz9_1 := blk_frozen BK156.out 1
        have hfz9_2 := blk_frozen BK156.out 2
        have hfz9_3 := blk_frozen BK156.out 3
        go_wp2
        go_meet
        case rel => exact ⟨_, (true), (by first | rfl | (simp; done) | (simp [*]; done)), H', ⟨by first | omega | exact Nat.le_refl _⟩, ⟨by (with_reducible repeat (first | refine blk_drewN ?_ _ | refine blk_drew ?_ | refine blk_alloc ?_ _)); exact BK156.out⟩, ⟨by repeat (first | (with_reducible first | exact HB.out | apply below_alloc | apply pw_below_drewN | apply below_drew1 | refine below_set ?_ GE156.out) | exact HB.out)⟩⟩
      · rw [if_neg c8] at H
        have c8b0 : decide (400 < (a1.size : Int)) = false := decide_eq_false c8
        have c8b1 : decide (400 < a1.size) = false := decide_eq_false (by omega)
        clear c8
        replace H := Option.bind_eq_some_iff.mp H
        obtain ⟨t157, A100, H⟩ := H
        replace H : (bywashlaw7_FrameTells.j0 k a1 a2 (!t157) a0_0 a0_1 a0_2 a0_3) = some r := H
        have A10 := Aside0.mk A100
        clear A100
        have H' := Aside0.mk H
        clear H
        have hcz11_0 : w5.cell? ⟨gb156, 0, none⟩ = some (.int .i64 a0_0) := (blk_cell BK156.out 0).trans rfl
        have hcz11_1 : w5.cell? ⟨gb156, 1, none⟩ = some (.int .i64 a0_1) := (blk_cell BK156.out 1).trans rfl
        have hcz11_2 : w5.cell? ⟨gb156, 2, none⟩ = some (.int .i64 a0_2) := (blk_cell BK156.out 2).trans rfl
        have hcz11_3 : w5.cell? ⟨gb156, 3, none⟩ = some (.string a0_3) := (blk_cell BK156.out 3).trans rfl
        have hfz11_0 := blk_frozen BK156.out 0
        have hfz11_1 := blk_frozen BK156.out 1
        have hfz11_2 := blk_frozen BK156.out 2
        have hfz11_3 := blk_frozen BK156.out 3
        go_wp2_with (first | (go_at_call 9; (with_reducible refine (bywashlaw7_alive.calls k  t157 _ A10.out).mono ?_); rintro e w12 ⟨rfl, hb⟩; have n0_ := Aside0.mk (blk_below (g := gb156) (o := .cells #[.int .i64 a0_0, .int .i64 a0_1, .int .i64 a0_2, .string a0_3] 23 (0, 0)) (by (with_reducible repeat (first | refine blk_drewN ?_ _ | refine blk_drew ?_ | refine blk_alloc ?_ _)); exact BK156.out) hb); have n1_ := Aside0.mk (below_step (by repeat (first | (with_reducible first | exact HB.out | apply below_alloc | apply pw_below_drewN | apply below_drew1 | refine below_set ?_ GE156.out) | exact HB.out)) hb); clear BK156; clear HB; have BK156 := n0_; have HB := n1_; clear n0_ n1_; (try clear hb); (try clear hb2); (try clear hk); (try clear hi)))
        go_meet
        case rel => exact ⟨_, (!t157), (by first | rfl | (simp; done) | (simp [*]; done)), H', ⟨by first | omega | exact Nat.le_refl _⟩, ⟨by (with_reducible repeat (first | refine blk_drewN ?_ _ | refine blk_drew ?_ | refine blk_alloc ?_ _)); exact BK156.out⟩, ⟨by repeat (first | (with_reducible first | exact HB.out | apply below_alloc | apply pw_below_drewN | apply below_drew1 | refine below_set ?_ GE156.out) | exact HB.out)⟩⟩
  case rest =>
    clear HC4
    try clear p2
    try clear c3
    try clear c6
    try clear c6b0
    try clear c6b1
    try clear c8
    try clear c8b0
    try clear c8b1
    try clear hcz11_0
    try clear hcz11_1
    try clear hcz11_2
    try clear hcz11_3
    try clear hcz7_0
    try clear hcz7_1
    try clear hcz7_2
    try clear hcz7_3
    try clear hcz9_0
    try clear hcz9_1
    try clear hcz9_2
    try clear hcz9_3
    try clear hfz11_0
    try clear hfz11_1
    try clear hfz11_2
    try clear hfz11_3
    try clear hfz7_0
    try clear hfz7_1
    try clear hfz7_2
    try clear hfz7_3
    try clear hfz9_0
    try clear hfz9_1
    try clear hfz9_2
    try clear hfz9_3
    obtain ⟨kq, x38_3, rfl, HA, HJ3, BK156, HB⟩ := hcut
    cases kq with
    | zero => exact absurd HA.out (by simp [bywashlaw7_FrameTells.j0])
    | succ kj3 =>
      have H := HA.out
      clear HA
      simp only [bywashlaw7_FrameTells.j0] at H
      by_cases c13 : x38_3 = true
      · subst c13
        have H1 : ((bywashlaw7_alive.f kj3).bind fun t158 => (some t158)) = some r := by rw [if_pos rfl] at H; exact H
        clear H
        have H := H1
        clear H1
        replace H := Option.bind_eq_some_iff.mp H
        obtain ⟨t158, A140, H⟩ := H
        replace H : (some t158) = some r := H
        have A14 := Aside0.mk A140
        clear A140
        obtain rfl := Option.some.inj H
        go_wp2_with (first | ((with_reducible refine gate_callee (f := 9) rfl ?_); refine goesL_ (some 39) rfl rfl Try.func9 (by kernel_rfl) rfl #[] rfl (by (try simp only [List.map_toArray, List.map_cons, List.map_nil]); first | done | rfl | (simp only [List.length_drop, List.length_take]; rfl)) ?_; (with_reducible refine (bywashlaw7_alive.calls kj3  t158 _ A14.out).mono ?_); rintro e w15 ⟨rfl, hb⟩; refine ⟨_, rfl, ?_⟩; have n0_ := Aside0.mk (blk_below (g := gb156) (o := .cells #[.int .i64 a0_0, .int .i64 a0_1, .int .i64 a0_2, .string a0_3] 23 (0, 0)) (by (with_reducible repeat (first | refine blk_drewN ?_ _ | refine blk_drew ?_ | refine blk_alloc ?_ _)); exact BK156.out) hb); have n1_ := Aside0.mk (below_step (by repeat (first | (with_reducible first | exact HB.out | apply below_alloc | apply pw_below_drewN | apply below_drew1 | refine below_set ?_ GE156.out) | exact HB.out)) hb); clear BK156; clear HB; have BK156 := n0_; have HB := n1_; clear n0_ n1_; (try clear hb); (try clear hb2); (try clear hk); (try clear hi)))
        go_ret
        exact ⟨by first | rfl | (simp [errW_none, errW_some] <;> rfl) | (simp [*, errW_none, errW_some] <;> rfl), by repeat (first | (with_reducible first | exact HB.out | apply below_alloc | apply pw_below_drewN | apply below_drew1 | refine below_set ?_ GE156.out) | exact HB.out)⟩
      · replace c13 := Bool.eq_false_iff.mpr c13
        subst c13
        have H1 : ((frame_Put.f kj3 a0_0 a0_1 a0_2 a0_3).bind fun bt159 => ((bywashref1_FramePut.f kj3 a0_0 a0_1 a0_2 a0_3).bind fun bt161 => ((frame_Get.f kj3 a1).bind fun bt163 => ((bywashref1_FrameGet.f kj3 a1).bind fun bt170 => ((frame_Strip.f kj3 a0_0 a0_1 a0_2 a0_3).bind fun bt177 => ((bywashref1_Strip.f kj3 a0_0 a0_1 a0_2 a0_3).bind fun bt180 => (if bt159.1.toList = bt161.1.toList then (if bt159.2 = true then (if bt161.2 = true then ((frame_Right.f a0_0 a0_1 a0_2 a0_3).bind fun t183 => (if t183 = true then (if (!(bt163.1 == bt170.1) || (!(bt163.2.1 == bt170.2.1) || (!(bt163.2.2.1 == bt170.2.2.1) || (!(bt163.2.2.2.1.toList == bt170.2.2.2.1.toList))))) = true then (bywashlaw7_FrameTells.j1 kj3 a1 bt159.1 bt159.2 true a0_0 a0_1 a0_2 a0_3) else (if bt163.2.2.2.2.1 = bt170.2.2.2.2.1 then (if bt163.2.2.2.2.2 = bt170.2.2.2.2.2 then (if bt177.1.toList = bt180.1.toList then (if bt177.2.1 = bt180.2.1 then (if bt177.2.2 = bt180.2.2 then ((frame_Name.f a2).bind fun t184 => ((bywashref1_FrameName.f a2).bind fun t185 => (bywashlaw7_FrameTells.j1 kj3 a1 bt159.1 bt159.2 (t184.toList != t185.toList) a0_0 a0_1 a0_2 a0_3))) else (bywashlaw7_FrameTells.j1 kj3 a1 bt159.1 bt159.2 true a0_0 a0_1 a0_2 a0_3)) else (bywashlaw7_FrameTells.j1 kj3 a1 bt159.1 bt159.2 true a0_0 a0_1 a0_2 a0_3)) else (bywashlaw7_FrameTells.j1 kj3 a1 bt159.1 bt159.2 true a0_0 a0_1 a0_2 a0_3)) else (bywashlaw7_FrameTells.j1 kj3 a1 bt159.1 bt159.2 true a0_0 a0_1 a0_2 a0_3)) else (bywashlaw7_FrameTells.j1 kj3 a1 bt159.1 bt159.2 true a0_0 a0_1 a0_2 a0_3))) else (bywashlaw7_FrameTells.j1 kj3 a1 bt159.1 bt159.2 true a0_0 a0_1 a0_2 a0_3))) else (bywashlaw7_FrameTells.j1 kj3 a1 bt159.1 bt159.2 true a0_0 a0_1 a0_2 a0_3)) else (if bt161.2 = true then (bywashlaw7_FrameTells.j1 kj3 a1 bt159.1 bt159.2 true a0_0 a0_1 a0_2 a0_3) else ((frame_Right.f a0_0 a0_1 a0_2 a0_3).bind fun t186 => (if t186 = true then (bywashlaw7_FrameTells.j1 kj3 a1 bt159.1 bt159.2 true a0_0 a0_1 a0_2 a0_3) else (if (!(bt163.1 == bt170.1) || (!(bt163.2.1 == bt170.2.1) || (!(bt163.2.2.1 == bt170.2.2.1) || (!(bt163.2.2.2.1.toList == bt170.2.2.2.1.toList))))) = true then (bywashlaw7_FrameTells.j1 kj3 a1 bt159.1 bt159.2 true a0_0 a0_1 a0_2 a0_3) else (if bt163.2.2.2.2.1 = bt170.2.2.2.2.1 then (if bt163.2.2.2.2.2 = bt170.2.2.2.2.2 then (if bt177.1.toList = bt180.1.toList then (if bt177.2.1 = bt180.2.1 then (if bt177.2.2 = bt180.2.2 then ((frame_Name.f a2).bind fun t187 => ((bywashref1_FrameName.f a2).bind fun t188 => (bywashlaw7_FrameTells.j1 kj3 a1 bt159.1 bt159.2 (t187.toList != t188.toList) a0_0 a0_1 a0_2 a0_3))) else (bywashlaw7_FrameTells.j1 kj3 a1 bt159.1 bt159.2 true a0_0 a0_1 a0_2 a0_3)) else (bywashlaw7_FrameTells.j1 kj3 a1 bt159.1 bt159.2 true a0_0 a0_1 a0_2 a0_3)) else (bywashlaw7_FrameTells.j1 kj3 a1 bt159.1 bt159.2 true a0_0 a0_1 a0_2 a0_3)) else (bywashlaw7_FrameTells.j1 kj3 a1 bt159.1 bt159.2 true a0_0 a0_1 a0_2 a0_3)) else (bywashlaw7_FrameTells.j1 kj3 a1 bt159.1 bt159.2 true a0_0 a0_1 a0_2 a0_3))))))) else (bywashlaw7_FrameTells.j1 kj3 a1 bt159.1 bt159.2 true a0_0 a0_1 a0_2 a0_3)))))))) = some r := by rw [if_neg (show ¬ (false = true) by decide)] at H; exact H
        clear H
        have H := H1
        clear H1
        replace H := Option.bind_eq_some_iff.mp H
        obtain ⟨⟨t159, t160⟩, A160, H⟩ := H
        replace H : ((bywashref1_FramePut.f kj3 a0_0 a0_1 a0_2 a0_3).bind fun bt161 => ((frame_Get.f kj3 a1).bind fun bt163 => ((bywashref1_FrameGet.f kj3 a1).bind fun bt170 => ((frame_Strip.f kj3 a0_0 a0_1 a0_2 a0_3).bind fun bt177 => ((bywashref1_Strip.f kj3 a0_0 a0_1 a0_2 a0_3).bind fun bt180 => (if t159.toList = bt161.1.toList then (if t160 = true then (if bt161.2 = true then ((frame_Right.f a0_0 a0_1 a0_2 a0_3).bind fun t183 => (if t183 = true then (if (!(bt163.1 == bt170.1) || (!(bt163.2.1 == bt170.2.1) || (!(bt163.2.2.1 == bt170.2.2.1) || (!(bt163.2.2.2.1.toList == bt170.2.2.2.1.toList))))) = true then (bywashlaw7_FrameTells.j1 kj3 a1 t159 t160 true a0_0 a0_1 a0_2 a0_3) else (if bt163.2.2.2.2.1 = bt170.2.2.2.2.1 then (if bt163.2.2.2.2.2 = bt170.2.2.2.2.2 then (if bt177.1.toList = bt180.1.toList then (if bt177.2.1 = bt180.2.1 then (if bt177.2.2 = bt180.2.2 then ((frame_Name.f a2).bind fun t184 => ((bywashref1_FrameName.f a2).bind fun t185 => (bywashlaw7_FrameTells.j1 kj3 a1 t159 t160 (t184.toList != t185.toList) a0_0 a0_1 a0_2 a0_3))) else (bywashlaw7_FrameTells.j1 kj3 a1 t159 t160 true a0_0 a0_1 a0_2 a0_3)) else (bywashlaw7_FrameTells.j1 kj3 a1 t159 t160 true a0_0 a0_1 a0_2 a0_3)) else (bywashlaw7_FrameTells.j1 kj3 a1 t159 t160 true a0_0 a0_1 a0_2 a0_3)) else (bywashlaw7_FrameTells.j1 kj3 a1 t159 t160 true a0_0 a0_1 a0_2 a0_3)) else (bywashlaw7_FrameTells.j1 kj3 a1 t159 t160 true a0_0 a0_1 a0_2 a0_3))) else (bywashlaw7_FrameTells.j1 kj3 a1 t159 t160 true a0_0 a0_1 a0_2 a0_3))) else (bywashlaw7_FrameTells.j1 kj3 a1 t159 t160 true a0_0 a0_1 a0_2 a0_3)) else (if bt161.2 = true then (bywashlaw7_FrameTells.j1 kj3 a1 t159 t160 true a0_0 a0_1 a0_2 a0_3) else ((frame_Right.f a0_0 a0_1 a0_2 a0_3).bind fun t186 => (if t186 = true then (bywashlaw7_FrameTells.j1 kj3 a1 t159 t160 true a0_0 a0_1 a0_2 a0_3) else (if (!(bt163.1 == bt170.1) || (!(bt163.2.1 == bt170.2.1) || (!(bt163.2.2.1 == bt170.2.2.1) || (!(bt163.2.2.2.1.toList == bt170.2.2.2.1.toList))))) = true then (bywashlaw7_FrameTells.j1 kj3 a1 t159 t160 true a0_0 a0_1 a0_2 a0_3) else (if bt163.2.2.2.2.1 = bt170.2.2.2.2.1 then (if bt163.2.2.2.2.2 = bt170.2.2.2.2.2 then (if bt177.1.toList = bt180.1.toList then (if bt177.2.1 = bt180.2.1 then (if bt177.2.2 = bt180.2.2 then ((frame_Name.f a2).bind fun t187 => ((bywashref1_FrameName.f a2).bind fun t188 => (bywashlaw7_FrameTells.j1 kj3 a1 t159 t160 (t187.toList != t188.toList) a0_0 a0_1 a0_2 a0_3))) else (bywashlaw7_FrameTells.j1 kj3 a1 t159 t160 true a0_0 a0_1 a0_2 a0_3)) else (bywashlaw7_FrameTells.j1 kj3 a1 t159 t160 true a0_0 a0_1 a0_2 a0_3)) else (bywashlaw7_FrameTells.j1 kj3 a1 t159 t160 true a0_0 a0_1 a0_2 a0_3)) else (bywashlaw7_FrameTells.j1 kj3 a1 t159 t160 true a0_0 a0_1 a0_2 a0_3)) else (bywashlaw7_FrameTells.j1 kj3 a1 t159 t160 true a0_0 a0_1 a0_2 a0_3))))))) else (bywashlaw7_FrameTells.j1 kj3 a1 t159 t160 true a0_0 a0_1 a0_2 a0_3))))))) = some r := H
        have A16 := Aside0.mk A160
        clear A160
        replace H := Option.bind_eq_some_iff.mp H
        obtain ⟨⟨t161, t162⟩, A170, H⟩ := H
        replace H : ((frame_Get.f kj3 a1).bind fun bt163 => ((bywashref1_FrameGet.f kj3 a1).bind fun bt170 => ((frame_Strip.f kj3 a0_0 a0_1 a0_2 a0_3).bind fun bt177 => ((bywashref1_Strip.f kj3 a0_0 a0_1 a0_2 a0_3).bind fun bt180 => (if t159.toList = t161.toList then (if t160 = true then (if t162 = true then ((frame_Right.f a0_0 a0_1 a0_2 a0_3).bind fun t183 => (if t183 = true then (if (!(bt163.1 == bt170.1) || (!(bt163.2.1 == bt170.2.1) || (!(bt163.2.2.1 == bt170.2.2.1) || (!(bt163.2.2.2.1.toList == bt170.2.2.2.1.toList))))) = true then (bywashlaw7_FrameTells.j1 kj3 a1 t159 t160 true a0_0 a0_1 a0_2 a0_3) else (if bt163.2.2.2.2.1 = bt170.2.2.2.2.1 then (if bt163.2.2.2.2.2 = bt170.2.2.2.2.2 then (if bt177.1.toList = bt180.1.toList then (if bt177.2.1 = bt180.2.1 then (if bt177.2.2 = bt180.2.2 then ((frame_Name.f a2).bind fun t184 => ((bywashref1_FrameName.f a2).bind fun t185 => (bywashlaw7_FrameTells.j1 kj3 a1 t159 t160 (t184.toList != t185.toList) a0_0 a0_1 a0_2 a0_3))) else (bywashlaw7_FrameTells.j1 kj3 a1 t159 t160 true a0_0 a0_1 a0_2 a0_3)) else (bywashlaw7_FrameTells.j1 kj3 a1 t159 t160 true a0_0 a0_1 a0_2 a0_3)) else (bywashlaw7_FrameTells.j1 kj3 a1 t159 t160 true a0_0 a0_1 a0_2 a0_3)) else (bywashlaw7_FrameTells.j1 kj3 a1 t159 t160 true a0_0 a0_1 a0_2 a0_3)) else (bywashlaw7_FrameTells.j1 kj3 a1 t159 t160 true a0_0 a0_1 a0_2 a0_3))) else (bywashlaw7_FrameTells.j1 kj3 a1 t159 t160 true a0_0 a0_1 a0_2 a0_3))) else (bywashlaw7_FrameTells.j1 kj3 a1 t159 t160 true a0_0 a0_1 a0_2 a0_3)) else (if t162 = true then (bywashlaw7_FrameTells.j1 kj3 a1 t159 t160 true a0_0 a0_1 a0_2 a0_3) else ((frame_Right.f a0_0 a0_1 a0_2 a0_3).bind fun t186 => (if t186 = true then (bywashlaw7_FrameTells.j1 kj3 a1 t159 t160 true a0_0 a0_1 a0_2 a0_3) else (if (!(bt163.1 == bt170.1) || (!(bt163.2.1 == bt170.2.1) || (!(bt163.2.2.1 == bt170.2.2.1) || (!(bt163.2.2.2.1.toList == bt170.2.2.2.1.toList))))) = true then (bywashlaw7_FrameTells.j1 kj3 a1 t159 t160 true a0_0 a0_1 a0_2 a0_3) else (if bt163.2.2.2.2.1 = bt170.2.2.2.2.1 then (if bt163.2.2.2.2.2 = bt170.2.2.2.2.2 then (if bt177.1.toList = bt180.1.toList then (if bt177.2.1 = bt180.2.1 then (if bt177.2.2 = bt180.2.2 then ((frame_Name.f a2).bind fun t187 => ((bywashref1_FrameName.f a2).bind fun t188 => (bywashlaw7_FrameTells.j1 kj3 a1 t159 t160 (t187.toList != t188.toList) a0_0 a0_1 a0_2 a0_3))) else (bywashlaw7_FrameTells.j1 kj3 a1 t159 t160 true a0_0 a0_1 a0_2 a0_3)) else (bywashlaw7_FrameTells.j1 kj3 a1 t159 t160 true a0_0 a0_1 a0_2 a0_3)) else (bywashlaw7_FrameTells.j1 kj3 a1 t159 t160 true a0_0 a0_1 a0_2 a0_3)) else (bywashlaw7_FrameTells.j1 kj3 a1 t159 t160 true a0_0 a0_1 a0_2 a0_3)) else (bywashlaw7_FrameTells.j1 kj3 a1 t159 t160 true a0_0 a0_1 a0_2 a0_3))))))) else (bywashlaw7_FrameTells.j1 kj3 a1 t159 t160 true a0_0 a0_1 a0_2 a0_3)))))) = some r := H
        have A17 := Aside0.mk A170
        clear A170
        replace H := Option.bind_eq_some_iff.mp H
        obtain ⟨⟨t163, t164, t165, t166, t167, t168⟩, A180, H⟩ := H
        replace H : ((bywashref1_FrameGet.f kj3 a1).bind fun bt170 => ((frame_Strip.f kj3 a0_0 a0_1 a0_2 a0_3).bind fun bt177 => ((bywashref1_Strip.f kj3 a0_0 a0_1 a0_2 a0_3).bind fun bt180 => (if t159.toList = t161.toList then (if t160 = true then (if t162 = true then ((frame_Right.f a0_0 a0_1 a0_2 a0_3).bind fun t183 => (if t183 = true then (if (!(t163 == bt170.1) || (!(t164 == bt170.2.1) || (!(t165 == bt170.2.2.1) || (!(t166.toList == bt170.2.2.2.1.toList))))) = true then (bywashlaw7_FrameTells.j1 kj3 a1 t159 t160 true a0_0 a0_1 a0_2 a0_3) else (if t167 = bt170.2.2.2.2.1 then (if t168 = bt170.2.2.2.2.2 then (if bt177.1.toList = bt180.1.toList then (if bt177.2.1 = bt180.2.1 then (if bt177.2.2 = bt180.2.2 then ((frame_Name.f a2).bind fun t184 => ((bywashref1_FrameName.f a2).bind fun t185 => (bywashlaw7_FrameTells.j1 kj3 a1 t159 t160 (t184.toList != t185.toList) a0_0 a0_1 a0_2 a0_3))) else (bywashlaw7_FrameTells.j1 kj3 a1 t159 t160 true a0_0 a0_1 a0_2 a0_3)) else (bywashlaw7_FrameTells.j1 kj3 a1 t159 t160 true a0_0 a0_1 a0_2 a0_3)) else (bywashlaw7_FrameTells.j1 kj3 a1 t159 t160 true a0_0 a0_1 a0_2 a0_3)) else (bywashlaw7_FrameTells.j1 kj3 a1 t159 t160 true a0_0 a0_1 a0_2 a0_3)) else (bywashlaw7_FrameTells.j1 kj3 a1 t159 t160 true a0_0 a0_1 a0_2 a0_3))) else (bywashlaw7_FrameTells.j1 kj3 a1 t159 t160 true a0_0 a0_1 a0_2 a0_3))) else (bywashlaw7_FrameTells.j1 kj3 a1 t159 t160 true a0_0 a0_1 a0_2 a0_3)) else (if t162 = true then (bywashlaw7_FrameTells.j1 kj3 a1 t159 t160 true a0_0 a0_1 a0_2 a0_3) else ((frame_Right.f a0_0 a0_1 a0_2 a0_3).bind fun t186 => (if t186 = true then (bywashlaw7_FrameTells.j1 kj3 a1 t159 t160 true a0_0 a0_1 a0_2 a0_3) else (if (!(t163 == bt170.1) || (!(t164 == bt170.2.1) || (!(t165 == bt170.2.2.1) || (!(t166.toList == bt170.2.2.2.1.toList))))) = true then (bywashlaw7_FrameTells.j1 kj3 a1 t159 t160 true a0_0 a0_1 a0_2 a0_3) else (if t167 = bt170.2.2.2.2.1 then (if t168 = bt170.2.2.2.2.2 then (if bt177.1.toList = bt180.1.toList then (if bt177.2.1 = bt180.2.1 then (if bt177.2.2 = bt180.2.2 then ((frame_Name.f a2).bind fun t187 => ((bywashref1_FrameName.f a2).bind fun t188 => (bywashlaw7_FrameTells.j1 kj3 a1 t159 t160 (t187.toList != t188.toList) a0_0 a0_1 a0_2 a0_3))) else (bywashlaw7_FrameTells.j1 kj3 a1 t159 t160 true a0_0 a0_1 a0_2 a0_3)) else (bywashlaw7_FrameTells.j1 kj3 a1 t159 t160 true a0_0 a0_1 a0_2 a0_3)) else (bywashlaw7_FrameTells.j1 kj3 a1 t159 t160 true a0_0 a0_1 a0_2 a0_3)) else (bywashlaw7_FrameTells.j1 kj3 a1 t159 t160 true a0_0 a0_1 a0_2 a0_3)) else (bywashlaw7_FrameTells.j1 kj3 a1 t159 t160 true a0_0 a0_1 a0_2 a0_3))))))) else (bywashlaw7_FrameTells.j1 kj3 a1 t159 t160 true a0_0 a0_1 a0_2 a0_3))))) = some r := H
        have A18 := Aside0.mk A180
        clear A180
        replace H := Option.bind_eq_some_iff.mp H
        obtain ⟨⟨t170, t171, t172, t173, t174, t175⟩, A190, H⟩ := H
        replace H : ((frame_Strip.f kj3 a0_0 a0_1 a0_2 a0_3).bind fun bt177 => ((bywashref1_Strip.f kj3 a0_0 a0_1 a0_2 a0_3).bind fun bt180 => (if t159.toList = t161.toList then (if t160 = true then (if t162 = true then ((frame_Right.f a0_0 a0_1 a0_2 a0_3).bind fun t183 => (if t183 = true then (if (!(t163 == t170) || (!(t164 == t171) || (!(t165 == t172) || (!(t166.toList == t173.toList))))) = true then (bywashlaw7_FrameTells.j1 kj3 a1 t159 t160 true a0_0 a0_1 a0_2 a0_3) else (if t167 = t174 then (if t168 = t175 then (if bt177.1.toList = bt180.1.toList then (if bt177.2.1 = bt180.2.1 then (if bt177.2.2 = bt180.2.2 then ((frame_Name.f a2).bind fun t184 => ((bywashref1_FrameName.f a2).bind fun t185 => (bywashlaw7_FrameTells.j1 kj3 a1 t159 t160 (t184.toList != t185.toList) a0_0 a0_1 a0_2 a0_3))) else (bywashlaw7_FrameTells.j1 kj3 a1 t159 t160 true a0_0 a0_1 a0_2 a0_3)) else (bywashlaw7_FrameTells.j1 kj3 a1 t159 t160 true a0_0 a0_1 a0_2 a0_3)) else (bywashlaw7_FrameTells.j1 kj3 a1 t159 t160 true a0_0 a0_1 a0_2 a0_3)) else (bywashlaw7_FrameTells.j1 kj3 a1 t159 t160 true a0_0 a0_1 a0_2 a0_3)) else (bywashlaw7_FrameTells.j1 kj3 a1 t159 t160 true a0_0 a0_1 a0_2 a0_3))) else (bywashlaw7_FrameTells.j1 kj3 a1 t159 t160 true a0_0 a0_1 a0_2 a0_3))) else (bywashlaw7_FrameTells.j1 kj3 a1 t159 t160 true a0_0 a0_1 a0_2 a0_3)) else (if t162 = true then (bywashlaw7_FrameTells.j1 kj3 a1 t159 t160 true a0_0 a0_1 a0_2 a0_3) else ((frame_Right.f a0_0 a0_1 a0_2 a0_3).bind fun t186 => (if t186 = true then (bywashlaw7_FrameTells.j1 kj3 a1 t159 t160 true a0_0 a0_1 a0_2 a0_3) else (if (!(t163 == t170) || (!(t164 == t171) || (!(t165 == t172) || (!(t166.toList == t173.toList))))) = true then (bywashlaw7_FrameTells.j1 kj3 a1 t159 t160 true a0_0 a0_1 a0_2 a0_3) else (if t167 = t174 then (if t168 = t175 then (if bt177.1.toList = bt180.1.toList then (if bt177.2.1 = bt180.2.1 then (if bt177.2.2 = bt180.2.2 then ((frame_Name.f a2).bind fun t187 => ((bywashref1_FrameName.f a2).bind fun t188 => (bywashlaw7_FrameTells.j1 kj3 a1 t159 t160 (t187.toList != t188.toList) a0_0 a0_1 a0_2 a0_3))) else (bywashlaw7_FrameTells.j1 kj3 a1 t159 t160 true a0_0 a0_1 a0_2 a0_3)) else (bywashlaw7_FrameTells.j1 kj3 a1 t159 t160 true a0_0 a0_1 a0_2 a0_3)) else (bywashlaw7_FrameTells.j1 kj3 a1 t159 t160 true a0_0 a0_1 a0_2 a0_3)) else (bywashlaw7_FrameTells.j1 kj3 a1 t159 t160 true a0_0 a0_1 a0_2 a0_3)) else (bywashlaw7_FrameTells.j1 kj3 a1 t159 t160 true a0_0 a0_1 a0_2 a0_3))))))) else (bywashlaw7_FrameTells.j1 kj3 a1 t159 t160 true a0_0 a0_1 a0_2 a0_3)))) = some r := H
        have A19 := Aside0.mk A190
        clear A190
        replace H := Option.bind_eq_some_iff.mp H
        obtain ⟨⟨t177, t178, t179⟩, A200, H⟩ := H
        replace H : ((bywashref1_Strip.f kj3 a0_0 a0_1 a0_2 a0_3).bind fun bt180 => (if t159.toList = t161.toList then (if t160 = true then (if t162 = true then ((frame_Right.f a0_0 a0_1 a0_2 a0_3).bind fun t183 => (if t183 = true then (if (!(t163 == t170) || (!(t164 == t171) || (!(t165 == t172) || (!(t166.toList == t173.toList))))) = true then (bywashlaw7_FrameTells.j1 kj3 a1 t159 t160 true a0_0 a0_1 a0_2 a0_3) else (if t167 = t174 then (if t168 = t175 then (if t177.toList = bt180.1.toList then (if t178 = bt180.2.1 then (if t179 = bt180.2.2 then ((frame_Name.f a2).bind fun t184 => ((bywashref1_FrameName.f a2).bind fun t185 => (bywashlaw7_FrameTells.j1 kj3 a1 t159 t160 (t184.toList != t185.toList) a0_0 a0_1 a0_2 a0_3))) else (bywashlaw7_FrameTells.j1 kj3 a1 t159 t160 true a0_0 a0_1 a0_2 a0_3)) else (bywashlaw7_FrameTells.j1 kj3 a1 t159 t160 true a0_0 a0_1 a0_2 a0_3)) else (bywashlaw7_FrameTells.j1 kj3 a1 t159 t160 true a0_0 a0_1 a0_2 a0_3)) else (bywashlaw7_FrameTells.j1 kj3 a1 t159 t160 true a0_0 a0_1 a0_2 a0_3)) else (bywashlaw7_FrameTells.j1 kj3 a1 t159 t160 true a0_0 a0_1 a0_2 a0_3))) else (bywashlaw7_FrameTells.j1 kj3 a1 t159 t160 true a0_0 a0_1 a0_2 a0_3))) else (bywashlaw7_FrameTells.j1 kj3 a1 t159 t160 true a0_0 a0_1 a0_2 a0_3)) else (if t162 = true then (bywashlaw7_FrameTells.j1 kj3 a1 t159 t160 true a0_0 a0_1 a0_2 a0_3) else ((frame_Right.f a0_0 a0_1 a0_2 a0_3).bind fun t186 => (if t186 = true then (bywashlaw7_FrameTells.j1 kj3 a1 t159 t160 true a0_0 a0_1 a0_2 a0_3) else (if (!(t163 == t170) || (!(t164 == t171) || (!(t165 == t172) || (!(t166.toList == t173.toList))))) = true then (bywashlaw7_FrameTells.j1 kj3 a1 t159 t160 true a0_0 a0_1 a0_2 a0_3) else (if t167 = t174 then (if t168 = t175 then (if t177.toList = bt180.1.toList then (if t178 = bt180.2.1 then (if t179 = bt180.2.2 then ((frame_Name.f a2).bind fun t187 => ((bywashref1_FrameName.f a2).bind fun t188 => (bywashlaw7_FrameTells.j1 kj3 a1 t159 t160 (t187.toList != t188.toList) a0_0 a0_1 a0_2 a0_3))) else (bywashlaw7_FrameTells.j1 kj3 a1 t159 t160 true a0_0 a0_1 a0_2 a0_3)) else (bywashlaw7_FrameTells.j1 kj3 a1 t159 t160 true a0_0 a0_1 a0_2 a0_3)) else (bywashlaw7_FrameTells.j1 kj3 a1 t159 t160 true a0_0 a0_1 a0_2 a0_3)) else (bywashlaw7_FrameTells.j1 kj3 a1 t159 t160 true a0_0 a0_1 a0_2 a0_3)) else (bywashlaw7_FrameTells.j1 kj3 a1 t159 t160 true a0_0 a0_1 a0_2 a0_3))))))) else (bywashlaw7_FrameTells.j1 kj3 a1 t159 t160 true a0_0 a0_1 a0_2 a0_3))) = some r := H
        have A20 := Aside0.mk A200
        clear A200
        replace H := Option.bind_eq_some_iff.mp H
        obtain ⟨⟨t180, t181, t182⟩, A210, H⟩ := H
        replace H : (if t159.toList = t161.toList then (if t160 = true then (if t162 = true then ((frame_Right.f a0_0 a0_1 a0_2 a0_3).bind fun t183 => (if t183 = true then (if (!(t163 == t170) || (!(t164 == t171) || (!(t165 == t172) || (!(t166.toList == t173.toList))))) = true then (bywashlaw7_FrameTells.j1 kj3 a1 t159 t160 true a0_0 a0_1 a0_2 a0_3) else (if t167 = t174 then (if t168 = t175 then (if t177.toList = t180.toList then (if t178 = t181 then (if t179 = t182 then ((frame_Name.f a2).bind fun t184 => ((bywashref1_FrameName.f a2).bind fun t185 => (bywashlaw7_FrameTells.j1 kj3 a1 t159 t160 (t184.toList != t185.toList) a0_0 a0_1 a0_2 a0_3))) else (bywashlaw7_FrameTells.j1 kj3 a1 t159 t160 true a0_0 a0_1 a0_2 a0_3)) else (bywashlaw7_FrameTells.j1 kj3 a1 t159 t160 true a0_0 a0_1 a0_2 a0_3)) else (bywashlaw7_FrameTells.j1 kj3 a1 t159 t160 true a0_0 a0_1 a0_2 a0_3)) else (bywashlaw7_FrameTells.j1 kj3 a1 t159 t160 true a0_0 a0_1 a0_2 a0_3)) else (bywashlaw7_FrameTells.j1 kj3 a1 t159 t160 true a0_0 a0_1 a0_2 a0_3))) else (bywashlaw7_FrameTells.j1 kj3 a1 t159 t160 true a0_0 a0_1 a0_2 a0_3))) else (bywashlaw7_FrameTells.j1 kj3 a1 t159 t160 true a0_0 a0_1 a0_2 a0_3)) else (if t162 = true then (bywashlaw7_FrameTells.j1 kj3 a1 t159 t160 true a0_0 a0_1 a0_2 a0_3) else ((frame_Right.f a0_0 a0_1 a0_2 a0_3).bind fun t186 => (if t186 = true then (bywashlaw7_FrameTells.j1 kj3 a1 t159 t160 true a0_0 a0_1 a0_2 a0_3) else (if (!(t163 == t170) || (!(t164 == t171) || (!(t165 == t172) || (!(t166.toList == t173.toList))))) = true then (bywashlaw7_FrameTells.j1 kj3 a1 t159 t160 true a0_0 a0_1 a0_2 a0_3) else (if t167 = t174 then (if t168 = t175 then (if t177.toList = t180.toList then (if t178 = t181 then (if t179 = t182 then ((frame_Name.f a2).bind fun t187 => ((bywashref1_FrameName.f a2).bind fun t188 => (bywashlaw7_FrameTells.j1 kj3 a1 t159 t160 (t187.toList != t188.toList) a0_0 a0_1 a0_2 a0_3))) else (bywashlaw7_FrameTells.j1 kj3 a1 t159 t160 true a0_0 a0_1 a0_2 a0_3)) else (bywashlaw7_FrameTells.j1 kj3 a1 t159 t160 true a0_0 a0_1 a0_2 a0_3)) else (bywashlaw7_FrameTells.j1 kj3 a1 t159 t160 true a0_0 a0_1 a0_2 a0_3)) else (bywashlaw7_FrameTells.j1 kj3 a1 t159 t160 true a0_0 a0_1 a0_2 a0_3)) else (bywashlaw7_FrameTells.j1 kj3 a1 t159 t160 true a0_0 a0_1 a0_2 a0_3))))))) else (bywashlaw7_FrameTells.j1 kj3 a1 t159 t160 true a0_0 a0_1 a0_2 a0_3)) = some r := H
        have A21 := Aside0.mk A210
        clear A210
        have HC22 := Aside0.mk H
        clear H
        have hcz23_0 : wc.cell? ⟨gb156, 0, none⟩ = some (.int .i64 a0_0) := (blk_cell BK156.out 0).trans rfl
        have hcz23_1 : wc.cell? ⟨gb156, 1, none⟩ = some (.int .i64 a0_1) := (blk_cell BK156.out 1).trans rfl
        have hcz23_2 : wc.cell? ⟨gb156, 2, none⟩ = some (.int .i64 a0_2) := (blk_cell BK156.out 2).trans rfl
        have hcz23_3 : wc.cell? ⟨gb156, 3, none⟩ = some (.string a0_3) := (blk_cell BK156.out 3).trans rfl
        have hfz23_0 := blk_frozen BK156.out 0
        have hfz23_1 := blk_frozen BK156.out 1
        have hfz23_2 := blk_frozen BK156.out 2
        have hfz23_3 := blk_frozen BK156.out 3
        go_upto_region 9 with (first | ((with_reducible refine gate_callee (f := 10) rfl ?_); refine goesL_ (some 42) rfl rfl Try.func10 (by kernel_rfl) rfl #[.agg #[.int .i64 a0_0, .int .i64 a0_1, .int .i64 a0_2, .string a0_3]] rfl (by (try simp only [List.map_toArray, List.map_cons, List.map_nil]); first | done | rfl | (simp only [List.length_drop, List.length_take]; rfl)) ?_; (with_reducible refine (frame_Put.calls kj3 a0_0 a0_1 a0_2 a0_3 t159 t160 _ A16.out).mono ?_); rintro e w24 ⟨rfl, hb⟩; refine ⟨_, rfl, ?_⟩; have n0_ := Aside0.mk (blk_below (g := gb156) (o := .cells #[.int .i64 a0_0, .int .i64 a0_1, .int .i64 a0_2, .string a0_3] 23 (0, 0)) (by (with_reducible repeat (first | refine blk_drewN ?_ _ | refine blk_drew ?_ | refine blk_alloc ?_ _)); exact BK156.out) hb); have n1_ := Aside0.mk (below_step (by repeat (first | (with_reducible first | exact HB.out | apply below_alloc | apply pw_below_drewN | apply below_drew1 | refine below_set ?_ GE156.out) | exact HB.out)) hb); clear BK156; clear HB; have BK156 := n0_; have HB := n1_; clear n0_ n1_; (try clear hb); (try clear hb2); (try clear hk); (try clear hi); have hcz25_0 : w24.cell? ⟨gb156, 0, none⟩ = some (.int .i64 a0_0) := (blk_cell BK156.out 0).trans rfl; have hcz25_1 : w24.cell? ⟨gb156, 1, none⟩ = some (.int .i64 a0_1) := (blk_cell BK156.out 1).trans rfl; have hcz25_2 : w24.cell? ⟨gb156, 2, none⟩ = some (.int .i64 a0_2) := (blk_cell BK156.out 2).trans rfl; have hcz25_3 : w24.cell? ⟨gb156, 3, none⟩ = some (.string a0_3) := (blk_cell BK156.out 3).trans rfl; have hfz25_0 := blk_frozen BK156.out 0; have hfz25_1 := blk_frozen BK156.out 1; have hfz25_2 := blk_frozen BK156.out 2; have hfz25_3 := blk_frozen BK156.out 3) | ((with_reducible refine gate_callee (f := 11) rfl ?_); refine goesL_ (some 47) rfl rfl Try.func11 (by kernel_rfl) rfl #[.agg #[.int .i64 a0_0, .int .i64 a0_1, .int .i64 a0_2, .string a0_3]] rfl (by (try simp only [List.map_toArray, List.map_cons, List.map_nil]); first | done | rfl | (simp only [List.length_drop, List.length_take]; rfl)) ?_; (with_reducible refine (bywashref1_FramePut.calls kj3 a0_0 a0_1 a0_2 a0_3 t161 t162 _ A17.out).mono ?_); rintro e w26 ⟨rfl, hb⟩; refine ⟨_, rfl, ?_⟩; have n0_ := Aside0.mk (blk_below (g := gb156) (o := .cells #[.int .i64 a0_0, .int .i64 a0_1, .int .i64 a0_2, .string a0_3] 23 (0, 0)) (by (with_reducible repeat (first | refine blk_drewN ?_ _ | refine blk_drew ?_ | refine blk_alloc ?_ _)); exact BK156.out) hb); have n1_ := Aside0.mk (below_step (by repeat (first | (with_reducible first | exact HB.out | apply below_alloc | apply pw_below_drewN | apply below_drew1 | refine below_set ?_ GE156.out) | exact HB.out)) hb); clear BK156; clear HB; have BK156 := n0_; have HB := n1_; clear n0_ n1_; (try clear hb); (try clear hb2); (try clear hk); (try clear hi)) | ((with_reducible refine gate_callee (f := 12) rfl ?_); refine goesL_ (some 52) rfl rfl Try.func12 (by kernel_rfl) rfl #[.string a1] rfl (by (try simp only [List.map_toArray, List.map_cons, List.map_nil]); first | done | rfl | (simp only [List.length_drop, List.length_take]; rfl)) ?_; (with_reducible refine (frame_Get.calls kj3 a1 t163 t164 t165 t166 t167 t168 _ A18.out).mono ?_); rintro e w27 ⟨rfl, hb⟩; refine ⟨_, rfl, ?_⟩; have n0_ := Aside0.mk (blk_below (g := gb156) (o := .cells #[.int .i64 a0_0, .int .i64 a0_1, .int .i64 a0_2, .string a0_3] 23 (0, 0)) (by (with_reducible repeat (first | refine blk_drewN ?_ _ | refine blk_drew ?_ | refine blk_alloc ?_ _)); exact BK156.out) hb); have n1_ := Aside0.mk (below_step (by repeat (first | (with_reducible first | exact HB.out | apply below_alloc | apply pw_below_drewN | apply below_drew1 | refine below_set ?_ GE156.out) | exact HB.out)) hb); clear BK156; clear HB; have BK156 := n0_; have HB := n1_; clear n0_ n1_; (try clear hb); (try clear hb2); (try clear hk); (try clear hi)) | ((with_reducible refine gate_dst (N := 11) rfl ?_); (try (refine gate_guard (by rfl) ?_; dsimp only)); refine box_event ?hg (N := 11) ?hd (cs := #[.int .i64 0, .int .i64 0, .int .i64 0, .string (⟨#[]⟩ : ByteArray)]) (t := 23) ?hr ?_; (case hd => rfl); (case hg => rfl); (case hr => first | (go_simp; done) | (go_simp; rfl)); intro gb169 hg w28 hbox hb; have n0_ := Aside0.mk (blk_below (g := gb156) (o := .cells #[.int .i64 a0_0, .int .i64 a0_1, .int .i64 a0_2, .string a0_3] 23 (0, 0)) (by (with_reducible repeat (first | refine blk_drewN ?_ _ | refine blk_drew ?_ | refine blk_alloc ?_ _)); exact BK156.out) hb); have n1_ := Aside0.mk (below_step (by repeat (first | (with_reducible first | exact HB.out | apply below_alloc | apply pw_below_drewN | apply below_drew1 | refine below_set ?_ GE156.out) | exact HB.out)) hb); have n2_ := Aside0.mk (hbox); have n3_ := Aside0.mk ((by rw [hg]; exact (below_size (by repeat (first | (with_reducible first | exact HB.out | apply below_alloc | apply pw_below_drewN | apply below_drew1 | refine below_set ?_ GE156.out) | exact HB.out))) : w.heap.size ≤ gb169)); have n4_ := Aside0.mk ((by rw [hg]; exact (below_size (by repeat (first | (with_reducible first | exact HB.out | apply below_alloc | apply pw_below_drewN | apply below_drew1 | refine below_set ?_ GE156.out) | exact HB.out))) : w.heap.size ≤ gb169)); have n5_ := Aside0.mk ((by rw [hg]; exact Nat.ne_of_lt (blk_lt (g := gb156) (o := .cells #[.int .i64 a0_0, .int .i64 a0_1, .int .i64 a0_2, .string a0_3] 23 (0, 0)) (by (with_reducible repeat (first | refine blk_drewN ?_ _ | refine blk_drew ?_ | refine blk_alloc ?_ _)); exact BK156.out)) : gb156 ≠ gb169)); have n6_ := Aside0.mk ((by rw [hg]; exact Nat.ne_of_gt (blk_lt (g := gb156) (o := .cells #[.int .i64 a0_0, .int .i64 a0_1, .int .i64 a0_2, .string a0_3] 23 (0, 0)) (by (with_reducible repeat (first | refine blk_drewN ?_ _ | refine blk_drew ?_ | refine blk_alloc ?_ _)); exact BK156.out)) : gb169 ≠ gb156)); clear BK156; clear HB; have BK156 := n0_; have HB := n1_; have BK169 := n2_; have GW169 := n3_; have GE169 := n4_; have NB156_169 := n5_; have NB169_156 := n6_; clear n0_ n1_ n2_ n3_ n4_ n5_ n6_; clear hb hbox hg; have hnb29 := NB169_156.out; have hnc29 := NB156_169.out; have hcz30_0 : w28.cell? ⟨gb169, 0, none⟩ = some (.int .i64 0) := (blk_cell BK169.out 0).trans rfl; have hcz30_1 : w28.cell? ⟨gb169, 1, none⟩ = some (.int .i64 0) := (blk_cell BK169.out 1).trans rfl; have hcz30_2 : w28.cell? ⟨gb169, 2, none⟩ = some (.int .i64 0) := (blk_cell BK169.out 2).trans rfl; have hcz30_3 : w28.cell? ⟨gb169, 3, none⟩ = some (.string (⟨#[]⟩ : ByteArray)) := (blk_cell BK169.out 3).trans rfl; have hfz30_0 := blk_frozen BK169.out 0; have hfz30_1 := blk_frozen BK169.out 1; have hfz30_2 := blk_frozen BK169.out 2; have hfz30_3 := blk_frozen BK169.out 3) | ((with_reducible refine gate_callee (f := 13) rfl ?_); refine goesL_ (some 58) rfl rfl Try.func13 (by kernel_rfl) rfl #[.string a1] rfl (by (try simp only [List.map_toArray, List.map_cons, List.map_nil]); first | done | rfl | (simp only [List.length_drop, List.length_take]; rfl)) ?_; (with_reducible refine (bywashref1_FrameGet.calls kj3 a1 t170 t171 t172 t173 t174 t175 _ A19.out).mono ?_); rintro e w31 ⟨rfl, hb⟩; refine ⟨_, rfl, ?_⟩; have n0_ := Aside0.mk (blk_below (g := gb156) (o := .cells #[.int .i64 a0_0, .int .i64 a0_1, .int .i64 a0_2, .string a0_3] 23 (0, 0)) (by (with_reducible repeat (first | refine blk_drewN ?_ _ | refine blk_drew ?_ | refine blk_alloc ?_ _)); refine blk_far ?_ NB156_169.out _; (with_reducible repeat (first | refine blk_drewN ?_ _ | refine blk_drew ?_ | refine blk_alloc ?_ _)); refine blk_far ?_ NB156_169.out _; (with_reducible repeat (first | refine blk_drewN ?_ _ | refine blk_drew ?_ | refine blk_alloc ?_ _)); refine blk_far ?_ NB156_169.out _; (with_reducible repeat (first | refine blk_drewN ?_ _ | refine blk_drew ?_ | refine blk_alloc ?_ _)); refine blk_far ?_ NB156_169.out _; (with_reducible repeat (first | refine blk_drewN ?_ _ | refine blk_drew ?_ | refine blk_alloc ?_ _)); exact BK156.out) hb); have n1_ := Aside0.mk (blk_below (g := gb169) (o := .cells #[.int .i64 t163, .int .i64 t164, .int .i64 t165, .string t166] 23 (0, 0)) (by (with_reducible repeat (first | refine blk_drewN ?_ _ | refine blk_drew ?_ | refine blk_alloc ?_ _)); refine blk_put (cs := #[.int .i64 t163, .int .i64 t164, .int .i64 t165, .string (⟨#[]⟩ : ByteArray)]) ?_ 3 _ rfl; (with_reducible repeat (first | refine blk_drewN ?_ _ | refine blk_drew ?_ | refine blk_alloc ?_ _)); refine blk_put (cs := #[.int .i64 t163, .int .i64 t164, .int .i64 0, .string (⟨#[]⟩ : ByteArray)]) ?_ 2 _ rfl; (with_reducible repeat (first | refine blk_drewN ?_ _ | refine blk_drew ?_ | refine blk_alloc ?_ _)); refine blk_put (cs := #[.int .i64 t163, .int .i64 0, .int .i64 0, .string (⟨#[]⟩ : ByteArray)]) ?_ 1 _ rfl; (with_reducible repeat (first | refine blk_drewN ?_ _ | refine blk_drew ?_ | refine blk_alloc ?_ _)); refine blk_put (cs := #[.int .i64 0, .int .i64 0, .int .i64 0, .string (⟨#[]⟩ : ByteArray)]) ?_ 0 _ rfl; (with_reducible repeat (first | refine blk_drewN ?_ _ | refine blk_drew ?_ | refine blk_alloc ?_ _)); exact BK169.out) hb); have n2_ := Aside0.mk (below_step (by repeat (first | (with_reducible first | exact HB.out | apply below_alloc | apply pw_below_drewN | apply below_drew1 | refine below_set ?_ GE156.out | refine below_set ?_ GE169.out) | exact HB.out)) hb); clear BK156; clear BK169; clear HB; have BK156 := n0_; have BK169 := n1_; have HB := n2_; clear n0_ n1_ n2_; (try clear hb); (try clear hb2); (try clear hk); (try clear hi)) | ((with_reducible refine gate_dst (N := 14) rfl ?_); (try (refine gate_guard (by rfl) ?_; dsimp only)); refine box_event ?hg (N := 14) ?hd (cs := #[.int .i64 0, .int .i64 0, .int .i64 0, .string (⟨#[]⟩ : ByteArray)]) (t := 23) ?hr ?_; (case hd => rfl); (case hg => rfl); (case hr => first | (go_simp; done) | (go_simp; rfl)); intro gb176 hg w32 hbox hb; have n0_ := Aside0.mk (blk_below (g := gb156) (o := .cells #[.int .i64 a0_0, .int .i64 a0_1, .int .i64 a0_2, .string a0_3] 23 (0, 0)) (by (with_reducible repeat (first | refine blk_drewN ?_ _ | refine blk_drew ?_ | refine blk_alloc ?_ _)); exact BK156.out) hb); have n1_ := Aside0.mk (blk_below (g := gb169) (o := .cells #[.int .i64 t163, .int .i64 t164, .int .i64 t165, .string t166] 23 (0, 0)) (by (with_reducible repeat (first | refine blk_drewN ?_ _ | refine blk_drew ?_ | refine blk_alloc ?_ _)); exact BK169.out) hb); have n2_ := Aside0.mk (below_step (by repeat (first | (with_reducible first | exact HB.out | apply below_alloc | apply pw_below_drewN | apply below_drew1 | refine below_set ?_ GE156.out | refine below_set ?_ GE169.out) | exact HB.out)) hb); have n3_ := Aside0.mk (hbox); have n4_ := Aside0.mk ((by rw [hg]; exact (below_size (by repeat (first | (with_reducible first | exact HB.out | apply below_alloc | apply pw_below_drewN | apply below_drew1 | refine below_set ?_ GE156.out | refine below_set ?_ GE169.out) | exact HB.out))) : w.heap.size ≤ gb176)); have n5_ := Aside0.mk ((by rw [hg]; exact (below_size (by repeat (first | (with_reducible first | exact HB.out | apply below_alloc | apply pw_below_drewN | apply below_drew1 | refine below_set ?_ GE156.out | refine below_set ?_ GE169.out) | exact HB.out))) : w.heap.size ≤ gb176)); have n6_ := Aside0.mk ((by rw [hg]; exact Nat.ne_of_lt (blk_lt (g := gb156) (o := .cells #[.int .i64 a0_0, .int .i64 a0_1, .int .i64 a0_2, .string a0_3] 23 (0, 0)) (by (with_reducible repeat (first | refine blk_drewN ?_ _ | refine blk_drew ?_ | refine blk_alloc ?_ _)); exact BK156.out)) : gb156 ≠ gb176)); have n7_ := Aside0.mk ((by rw [hg]; exact Nat.ne_of_gt (blk_lt (g := gb156) (o := .cells #[.int .i64 a0_0, .int .i64 a0_1, .int .i64 a0_2, .string a0_3] 23 (0, 0)) (by (with_reducible repeat (first | refine blk_drewN ?_ _ | refine blk_drew ?_ | refine blk_alloc ?_ _)); exact BK156.out)) : gb176 ≠ gb156)); have n8_ := Aside0.mk ((by rw [hg]; exact Nat.ne_of_lt (blk_lt (g := gb169) (o := .cells #[.int .i64 t163, .int .i64 t164, .int .i64 t165, .string t166] 23 (0, 0)) (by (with_reducible repeat (first | refine blk_drewN ?_ _ | refine blk_drew ?_ | refine blk_alloc ?_ _)); exact BK169.out)) : gb169 ≠ gb176)); have n9_ := Aside0.mk ((by rw [hg]; exact Nat.ne_of_gt (blk_lt (g := gb169) (o := .cells #[.int .i64 t163, .int .i64 t164, .int .i64 t165, .string t166] 23 (0, 0)) (by (with_reducible repeat (first | refine blk_drewN ?_ _ | refine blk_drew ?_ | refine blk_alloc ?_ _)); exact BK169.out)) : gb176 ≠ gb169)); clear BK156; clear BK169; clear HB; have BK156 := n0_; have BK169 := n1_; have HB := n2_; have BK176 := n3_; have GW176 := n4_; have GE176 := n5_; have NB156_176 := n6_; have NB176_156 := n7_; have NB169_176 := n8_; have NB176_169 := n9_; clear n0_ n1_ n2_ n3_ n4_ n5_ n6_ n7_ n8_ n9_; clear hb hbox hg; have hnb33 := NB176_156.out; have hnc33 := NB156_176.out; have hnb34 := NB176_169.out; have hnc34 := NB169_176.out; have hcz35_0 : w32.cell? ⟨gb176, 0, none⟩ = some (.int .i64 0) := (blk_cell BK176.out 0).trans rfl; have hcz35_1 : w32.cell? ⟨gb176, 1, none⟩ = some (.int .i64 0) := (blk_cell BK176.out 1).trans rfl; have hcz35_2 : w32.cell? ⟨gb176, 2, none⟩ = some (.int .i64 0) := (blk_cell BK176.out 2).trans rfl; have hcz35_3 : w32.cell? ⟨gb176, 3, none⟩ = some (.string (⟨#[]⟩ : ByteArray)) := (blk_cell BK176.out 3).trans rfl; have hfz35_0 := blk_frozen BK176.out 0; have hfz35_1 := blk_frozen BK176.out 1; have hfz35_2 := blk_frozen BK176.out 2; have hfz35_3 := blk_frozen BK176.out 3; have hcz36_0 : w32.cell? ⟨gb156, 0, none⟩ = some (.int .i64 a0_0) := (blk_cell BK156.out 0).trans rfl; have hcz36_1 : w32.cell? ⟨gb156, 1, none⟩ = some (.int .i64 a0_1) := (blk_cell BK156.out 1).trans rfl; have hcz36_2 : w32.cell? ⟨gb156, 2, none⟩ = some (.int .i64 a0_2) := (blk_cell BK156.out 2).trans rfl; have hcz36_3 : w32.cell? ⟨gb156, 3, none⟩ = some (.string a0_3) := (blk_cell BK156.out 3).trans rfl; have hfz36_0 := blk_frozen BK156.out 0; have hfz36_1 := blk_frozen BK156.out 1; have hfz36_2 := blk_frozen BK156.out 2; have hfz36_3 := blk_frozen BK156.out 3) | ((with_reducible refine gate_callee (f := 14) rfl ?_); refine goesL_ (some 64) rfl rfl Try.func14 (by kernel_rfl) rfl #[.agg #[.int .i64 a0_0, .int .i64 a0_1, .int .i64 a0_2, .string a0_3]] rfl (by (try simp only [List.map_toArray, List.map_cons, List.map_nil]); first | done | rfl | (simp only [List.length_drop, List.length_take]; rfl)) ?_; (with_reducible refine (frame_Strip.calls kj3 a0_0 a0_1 a0_2 a0_3 t177 t178 t179 _ A20.out).mono ?_); rintro e w37 ⟨rfl, hb⟩; refine ⟨_, rfl, ?_⟩; have n0_ := Aside0.mk (blk_below (g := gb156) (o := .cells #[.int .i64 a0_0, .int .i64 a0_1, .int .i64 a0_2, .string a0_3] 23 (0, 0)) (by (with_reducible repeat (first | refine blk_drewN ?_ _ | refine blk_drew ?_ | refine blk_alloc ?_ _)); refine blk_far ?_ NB156_176.out _; (with_reducible repeat (first | refine blk_drewN ?_ _ | refine blk_drew ?_ | refine blk_alloc ?_ _)); refine blk_far ?_ NB156_176.out _; (with_reducible repeat (first | refine blk_drewN ?_ _ | refine blk_drew ?_ | refine blk_alloc ?_ _)); refine blk_far ?_ NB156_176.out _; (with_reducible repeat (first | refine blk_drewN ?_ _ | refine blk_drew ?_ | refine blk_alloc ?_ _)); refine blk_far ?_ NB156_176.out _; (with_reducible repeat (first | refine blk_drewN ?_ _ | refine blk_drew ?_ | refine blk_alloc ?_ _)); exact BK156.out) hb); have n1_ := Aside0.mk (blk_below (g := gb169) (o := .cells #[.int .i64 t163, .int .i64 t164, .int .i64 t165, .string t166] 23 (0, 0)) (by (with_reducible repeat (first | refine blk_drewN ?_ _ | refine blk_drew ?_ | refine blk_alloc ?_ _)); refine blk_far ?_ NB169_176.out _; (with_reducible repeat (first | refine blk_drewN ?_ _ | refine blk_drew ?_ | refine blk_alloc ?_ _)); refine blk_far ?_ NB169_176.out _; (with_reducible repeat (first | refine blk_drewN ?_ _ | refine blk_drew ?_ | refine blk_alloc ?_ _)); refine blk_far ?_ NB169_176.out _; (with_reducible repeat (first | refine blk_drewN ?_ _ | refine blk_drew ?_ | refine blk_alloc ?_ _)); refine blk_far ?_ NB169_176.out _; (with_reducible repeat (first | refine blk_drewN ?_ _ | refine blk_drew ?_ | refine blk_alloc ?_ _)); exact BK169.out) hb); have n2_ := Aside0.mk (blk_below (g := gb176) (o := .cells #[.int .i64 t170, .int .i64 t171, .int .i64 t172, .string t173] 23 (0, 0)) (by (with_reducible repeat (first | refine blk_drewN ?_ _ | refine blk_drew ?_ | refine blk_alloc ?_ _)); refine blk_put (cs := #[.int .i64 t170, .int .i64 t171, .int .i64 t172, .string (⟨#[]⟩ : ByteArray)]) ?_ 3 _ rfl; (with_reducible repeat (first | refine blk_drewN ?_ _ | refine blk_drew ?_ | refine blk_alloc ?_ _)); refine blk_put (cs := #[.int .i64 t170, .int .i64 t171, .int .i64 0, .string (⟨#[]⟩ : ByteArray)]) ?_ 2 _ rfl; (with_reducible repeat (first | refine blk_drewN ?_ _ | refine blk_drew ?_ | refine blk_alloc ?_ _)); refine blk_put (cs := #[.int .i64 t170, .int .i64 0, .int .i64 0, .string (⟨#[]⟩ : ByteArray)]) ?_ 1 _ rfl; (with_reducible repeat (first | refine blk_drewN ?_ _ | refine blk_drew ?_ | refine blk_alloc ?_ _)); refine blk_put (cs := #[.int .i64 0, .int .i64 0, .int .i64 0, .string (⟨#[]⟩ : ByteArray)]) ?_ 0 _ rfl; (with_reducible repeat (first | refine blk_drewN ?_ _ | refine blk_drew ?_ | refine blk_alloc ?_ _)); exact BK176.out) hb); have n3_ := Aside0.mk (below_step (by repeat (first | (with_reducible first | exact HB.out | apply below_alloc | apply pw_below_drewN | apply below_drew1 | refine below_set ?_ GE156.out | refine below_set ?_ GE169.out | refine below_set ?_ GE176.out) | exact HB.out)) hb); clear BK156; clear BK169; clear BK176; clear HB; have BK156 := n0_; have BK169 := n1_; have BK176 := n2_; have HB := n3_; clear n0_ n1_ n2_ n3_; (try clear hb); (try clear hb2); (try clear hk); (try clear hi); have hcz38_0 : w37.cell? ⟨gb156, 0, none⟩ = some (.int .i64 a0_0) := (blk_cell BK156.out 0).trans rfl; have hcz38_1 : w37.cell? ⟨gb156, 1, none⟩ = some (.int .i64 a0_1) := (blk_cell BK156.out 1).trans rfl; have hcz38_2 : w37.cell? ⟨gb156, 2, none⟩ = some (.int .i64 a0_2) := (blk_cell BK156.out 2).trans rfl; have hcz38_3 : w37.cell? ⟨gb156, 3, none⟩ = some (.string a0_3) := (blk_cell BK156.out 3).trans rfl; have hfz38_0 := blk_frozen BK156.out 0; have hfz38_1 := blk_frozen BK156.out 1; have hfz38_2 := blk_frozen BK156.out 2; have hfz38_3 := blk_frozen BK156.out 3) | ((with_reducible refine gate_callee (f := 15) rfl ?_); refine goesL_ (some 70) rfl rfl Try.func15 (by kernel_rfl) rfl #[.agg #[.int .i64 a0_0, .int .i64 a0_1, .int .i64 a0_2, .string a0_3]] rfl (by (try simp only [List.map_toArray, List.map_cons, List.map_nil]); first | done | rfl | (simp only [List.length_drop, List.length_take]; rfl)) ?_; (with_reducible refine (bywashref1_Strip.calls kj3 a0_0 a0_1 a0_2 a0_3 t180 t181 t182 _ A21.out).mono ?_); rintro e w39 ⟨rfl, hb⟩; refine ⟨_, rfl, ?_⟩; have n0_ := Aside0.mk (blk_below (g := gb156) (o := .cells #[.int .i64 a0_0, .int .i64 a0_1, .int .i64 a0_2, .string a0_3] 23 (0, 0)) (by (with_reducible repeat (first | refine blk_drewN ?_ _ | refine blk_drew ?_ | refine blk_alloc ?_ _)); exact BK156.out) hb); have n1_ := Aside0.mk (blk_below (g := gb169) (o := .cells #[.int .i64 t163, .int .i64 t164, .int .i64 t165, .string t166] 23 (0, 0)) (by (with_reducible repeat (first | refine blk_drewN ?_ _ | refine blk_drew ?_ | refine blk_alloc ?_ _)); exact BK169.out) hb); have n2_ := Aside0.mk (blk_below (g := gb176) (o := .cells #[.int .i64 t170, .int .i64 t171, .int .i64 t172, .string t173] 23 (0, 0)) (by (with_reducible repeat (first | refine blk_drewN ?_ _ | refine blk_drew ?_ | refine blk_alloc ?_ _)); exact BK176.out) hb); have n3_ := Aside0.mk (below_step (by repeat (first | (with_reducible first | exact HB.out | apply below_alloc | apply pw_below_drewN | apply below_drew1 | refine below_set ?_ GE156.out | refine below_set ?_ GE169.out | refine below_set ?_ GE176.out) | exact HB.out)) hb); clear BK156; clear BK169; clear BK176; clear HB; have BK156 := n0_; have BK169 := n1_; have BK176 := n2_; have HB := n3_; clear n0_ n1_ n2_ n3_; (try clear hb); (try clear hb2); (try clear hk); (try clear hi)))
        (try simp only [Act.put, List.setIfInBounds_toArray, List.set_cons_zero, List.set_cons_succ])
        go_cut [124] (fun v124 wc => ∃ (kq : Nat) (x124_21 : Bool), v124 = .bool x124_21 ∧ Aside0 (bywashlaw7_FrameTells.j1 kq a1 t159 t160 x124_21 a0_0 a0_1 a0_2 a0_3 = some r) ∧ Aside0 (kq ≤ kj3) ∧ Aside0 (wc.heap[gb156]? = some (.cells #[.int .i64 a0_0, .int .i64 a0_1, .int .i64 a0_2, .string a0_3] 23 (0, 0))) ∧ Aside0 (wc.heap[gb169]? = some (.cells #[.int .i64 t163, .int .i64 t164, .int .i64 t165, .string t166] 23 (0, 0))) ∧ Aside0 (wc.heap[gb176]? = some (.cells #[.int .i64 t170, .int .i64 t171, .int .i64 t172, .string t173] 23 (0, 0))) ∧ Aside0 (Below w.heap.size w wc))
        case first =>
          have H := HC22.out
          clear HC22
          by_cases c40 : t159.toList = t161.toList
          · rw [if_pos c40] at H
            have c40b0 : (t159.toList == t161.toList) = true := beq_iff_eq.mpr c40
            have c40b1 : (t159.toList != t161.toList) = false := bne_eq_false_iff_eq.mpr c40
            clear c40
            (first | rw [c40b0] | (simp only [i64_w, i32_w]; rw [c40b0]) | skip)
            by_cases c41 : t160 = true
            · subst c41
              have H1 : (if t162 = true then ((frame_Right.f a0_0 a0_1 a0_2 a0_3).bind fun t183 => (if t183 = true then (if (!(t163 == t170) || (!(t164 == t171) || (!(t165 == t172) || (!(t166.toList == t173.toList))))) = true then (bywashlaw7_FrameTells.j1 kj3 a1 t159 true true a0_0 a0_1 a0_2 a0_3) else (if t167 = t174 then (if t168 = t175 then (if t177.toList = t180.toList then (if t178 = t181 then (if t179 = t182 then ((frame_Name.f a2).bind fun t184 => ((bywashref1_FrameName.f a2).bind fun t185 => (bywashlaw7_FrameTells.j1 kj3 a1 t159 true (t184.toList != t185.toList) a0_0 a0_1 a0_2 a0_3))) else (bywashlaw7_FrameTells.j1 kj3 a1 t159 true true a0_0 a0_1 a0_2 a0_3)) else (bywashlaw7_FrameTells.j1 kj3 a1 t159 true true a0_0 a0_1 a0_2 a0_3)) else (bywashlaw7_FrameTells.j1 kj3 a1 t159 true true a0_0 a0_1 a0_2 a0_3)) else (bywashlaw7_FrameTells.j1 kj3 a1 t159 true true a0_0 a0_1 a0_2 a0_3)) else (bywashlaw7_FrameTells.j1 kj3 a1 t159 true true a0_0 a0_1 a0_2 a0_3))) else (bywashlaw7_FrameTells.j1 kj3 a1 t159 true true a0_0 a0_1 a0_2 a0_3))) else (bywashlaw7_FrameTells.j1 kj3 a1 t159 true true a0_0 a0_1 a0_2 a0_3)) = some r := by rw [if_pos rfl] at H; exact H
              clear H
              have H := H1
              clear H1
              by_cases c42 : t162 = true
              · subst c42
                have H1 : ((frame_Right.f a0_0 a0_1 a0_2 a0_3).bind fun t183 => (if t183 = true then (if (!(t163 == t170) || (!(t164 == t171) || (!(t165 == t172) || (!(t166.toList == t173.toList))))) = true then (bywashlaw7_FrameTells.j1 kj3 a1 t159 true true a0_0 a0_1 a0_2 a0_3) else (if t167 = t174 then (if t168 = t175 then (if t177.toList = t180.toList then (if t178 = t181 then (if t179 = t182 then ((frame_Name.f a2).bind fun t184 => ((bywashref1_FrameName.f a2).bind fun t185 => (bywashlaw7_FrameTells.j1 kj3 a1 t159 true (t184.toList != t185.toList) a0_0 a0_1 a0_2 a0_3))) else (bywashlaw7_FrameTells.j1 kj3 a1 t159 true true a0_0 a0_1 a0_2 a0_3)) else (bywashlaw7_FrameTells.j1 kj3 a1 t159 true true a0_0 a0_1 a0_2 a0_3)) else (bywashlaw7_FrameTells.j1 kj3 a1 t159 true true a0_0 a0_1 a0_2 a0_3)) else (bywashlaw7_FrameTells.j1 kj3 a1 t159 true true a0_0 a0_1 a0_2 a0_3)) else (bywashlaw7_FrameTells.j1 kj3 a1 t159 true true a0_0 a0_1 a0_2 a0_3))) else (bywashlaw7_FrameTells.j1 kj3 a1 t159 true true a0_0 a0_1 a0_2 a0_3))) = some r := by rw [if_pos rfl] at H; exact H
                clear H
                have H := H1
                clear H1
                replace H := Option.bind_eq_some_iff.mp H
                obtain ⟨t183, A430, H⟩ := H
                replace H : (if t183 = true then (if (!(t163 == t170) || (!(t164 == t171) || (!(t165 == t172) || (!(t166.toList == t173.toList))))) = true then (bywashlaw7_FrameTells.j1 kj3 a1 t159 true true a0_0 a0_1 a0_2 a0_3) else (if t167 = t174 then (if t168 = t175 then (if t177.toList = t180.toList then (if t178 = t181 then (if t179 = t182 then ((frame_Name.f a2).bind fun t184 => ((bywashref1_FrameName.f a2).bind fun t185 => (bywashlaw7_FrameTells.j1 kj3 a1 t159 true (t184.toList != t185.toList) a0_0 a0_1 a0_2 a0_3))) else (bywashlaw7_FrameTells.j1 kj3 a1 t159 true true a0_0 a0_1 a0_2 a0_3)) else (bywashlaw7_FrameTells.j1 kj3 a1 t159 true true a0_0 a0_1 a0_2 a0_3)) else (bywashlaw7_FrameTells.j1 kj3 a1 t159 true true a0_0 a0_1 a0_2 a0_3)) else (bywashlaw7_FrameTells.j1 kj3 a1 t159 true true a0_0 a0_1 a0_2 a0_3)) else (bywashlaw7_FrameTells.j1 kj3 a1 t159 true true a0_0 a0_1 a0_2 a0_3))) else (bywashlaw7_FrameTells.j1 kj3 a1 t159 true true a0_0 a0_1 a0_2 a0_3)) = some r := H
                have A43 := Aside0.mk A430
                clear A430
                by_cases c44 : t183 = true
                · subst c44
                  have H1 : (if (!(t163 == t170) || (!(t164 == t171) || (!(t165 == t172) || (!(t166.toList == t173.toList))))) = true then (bywashlaw7_FrameTells.j1 kj3 a1 t159 true true a0_0 a0_1 a0_2 a0_3) else (if t167 = t174 then (if t168 = t175 then (if t177.toList = t180.toList then (if t178 = t181 then (if t179 = t182 then ((frame_Name.f a2).bind fun t184 => ((bywashref1_FrameName.f a2).bind fun t185 => (bywashlaw7_FrameTells.j1 kj3 a1 t159 true (t184.toList != t185.toList) a0_0 a0_1 a0_2 a0_3))) else (bywashlaw7_FrameTells.j1 kj3 a1 t159 true true a0_0 a0_1 a0_2 a0_3)) else (bywashlaw7_FrameTells.j1 kj3 a1 t159 true true a0_0 a0_1 a0_2 a0_3)) else (bywashlaw7_FrameTells.j1 kj3 a1 t159 true true a0_0 a0_1 a0_2 a0_3)) else (bywashlaw7_FrameTells.j1 kj3 a1 t159 true true a0_0 a0_1 a0_2 a0_3)) else (bywashlaw7_FrameTells.j1 kj3 a1 t159 true true a0_0 a0_1 a0_2 a0_3))) = some r := by rw [if_pos rfl] at H; exact H
                  clear H
                  have H := H1
                  clear H1
                  by_cases c45 : (!(t163 == t170) || (!(t164 == t171) || (!(t165 == t172) || (!(t166.toList == t173.toList))))) = true
                  · rw [if_pos c45] at H
                    have c45b0 : (!(t163 == t170) || (!(t164 == t171) || (!(t165 == t172) || (!(t166.toList == t173.toList))))) = true := c45
                    clear c45
                    have H' := Aside0.mk H
                    clear H
                    have hnb46 := NB156_169.out
                    have hnc46 := NB169_156.out
                    have hnb47 := NB156_176.out
                    have hnc47 := NB176_156.out
                    have hcz48_0 : w39.cell? ⟨gb156, 0, none⟩ = some (.int .i64 a0_0) := (blk_cell BK156.out 0).trans rfl
                    have hcz48_1 : w39.cell? ⟨gb156, 1, none⟩ = some (.int .i64 a0_1) := (blk_cell BK156.out 1).trans rfl
                    have hcz48_2 : w39.cell? ⟨gb156, 2, none⟩ = some (.int .i64 a0_2) := (blk_cell BK156.out 2).trans rfl
                    have hcz48_3 : w39.cell? ⟨gb156, 3, none⟩ = some (.string a0_3) := (blk_cell BK156.out 3).trans rfl
                    have hfz48_0 := blk_frozen BK156.out 0
                    have hfz48_1 := blk_frozen BK156.out 1
                    have hfz48_2 := blk_frozen BK156.out 2
                    have hfz48_3 := blk_frozen BK156.out 3
                    go_wp2_with (first | (go_at_call 16; (with_reducible refine (frame_Right.calls a0_0 a0_1 a0_2 a0_3 true _ A43.out).mono ?_); rintro e w49 ⟨rfl, hb⟩; have n0_ := Aside0.mk (blk_below (g := gb156) (o := .cells #[.int .i64 a0_0, .int .i64 a0_1, .int .i64 a0_2, .string a0_3] 23 (0, 0)) (by (with_reducible repeat (first | refine blk_drewN ?_ _ | refine blk_drew ?_ | refine blk_alloc ?_ _)); exact BK156.out) hb); have n1_ := Aside0.mk (blk_below (g := gb169) (o := .cells #[.int .i64 t163, .int .i64 t164, .int .i64 t165, .string t166] 23 (0, 0)) (by (with_reducible repeat (first | refine blk_drewN ?_ _ | refine blk_drew ?_ | refine blk_alloc ?_ _)); exact BK169.out) hb); have n2_ := Aside0.mk (blk_below (g := gb176) (o := .cells #[.int .i64 t170, .int .i64 t171, .int .i64 t172, .string t173] 23 (0, 0)) (by (with_reducible repeat (first | refine blk_drewN ?_ _ | refine blk_drew ?_ | refine blk_alloc ?_ _)); exact BK176.out) hb); have n3_ := Aside0.mk (below_step (by repeat (first | (with_reducible first | exact HB.out | apply below_alloc | apply pw_below_drewN | apply below_drew1 | refine below_set ?_ GE156.out | refine below_set ?_ GE169.out | refine below_set ?_ GE176.out) | exact HB.out)) hb); clear BK156; clear BK169; clear BK176; clear HB; have BK156 := n0_; have BK169 := n1_; have BK176 := n2_; have HB := n3_; clear n0_ n1_ n2_ n3_; (try clear hb); (try clear hb2); (try clear hk); (try clear hi); have hnb50 := NB169_176.out; have hnc50 := NB176_169.out; have hcz51_0 : w49.cell? ⟨gb169, 0, none⟩ = some (.int .i64 t163) := (blk_cell BK169.out 0).trans rfl; have hcz51_1 : w49.cell? ⟨gb169, 1, none⟩ = some (.int .i64 t164) := (blk_cell BK169.out 1).trans rfl; have hcz51_2 : w49.cell? ⟨gb169, 2, none⟩ = some (.int .i64 t165) := (blk_cell BK169.out 2).trans rfl; have hcz51_3 : w49.cell? ⟨gb169, 3, none⟩ = some (.string t166) := (blk_cell BK169.out 3).trans rfl; have hfz51_0 := blk_frozen BK169.out 0; have hfz51_1 := blk_frozen BK169.out 1; have hfz51_2 := blk_frozen BK169.out 2; have hfz51_3 := blk_frozen BK169.out 3; have hcz52_0 : w49.cell? ⟨gb176, 0, none⟩ = some (.int .i64 t170) := (blk_cell BK176.out 0).trans rfl; have hcz52_1 : w49.cell? ⟨gb176, 1, none⟩ = some (.int .i64 t171) := (blk_cell BK176.out 1).trans rfl; have hcz52_2 : w49.cell? ⟨gb176, 2, none⟩ = some (.int .i64 t172) := (blk_cell BK176.out 2).trans rfl; have hcz52_3 : w49.cell? ⟨gb176, 3, none⟩ = some (.string t173) := (blk_cell BK176.out 3).trans rfl; have hfz52_0 := blk_frozen BK176.out 0; have hfz52_1 := blk_frozen BK176.out 1; have hfz52_2 := blk_frozen BK176.out 2; have hfz52_3 := blk_frozen BK176.out 3))
                    go_meet
                    case rel => exact ⟨_, (true), (by first | rfl | (simp; done) | (simp [*]; done)), H', ⟨by have := HJ3.out; first | omega | exact Nat.le_refl _⟩, ⟨by (with_reducible repeat (first | refine blk_drewN ?_ _ | refine blk_drew ?_ | refine blk_alloc ?_ _)); exact BK156.out⟩, ⟨by (with_reducible repeat (first | refine blk_drewN ?_ _ | refine blk_drew ?_ | refine blk_alloc ?_ _)); exact BK169.out⟩, ⟨by (with_reducible repeat (first | refine blk_drewN ?_ _ | refine blk_drew ?_ | refine blk_alloc ?_ _)); exact BK176.out⟩, ⟨by repeat (first | (with_reducible first | exact HB.out | apply below_alloc | apply pw_below_drewN | apply below_drew1 | refine below_set ?_ GE156.out | refine below_set ?_ GE169.out | refine below_set ?_ GE176.out) | exact HB.out)⟩⟩
                  · rw [if_neg c45] at H
                    have c45b0 : (!(t163 == t170) || (!(t164 == t171) || (!(t165 == t172) || (!(t166.toList == t173.toList))))) = false := by simpa using c45
                    clear c45
                    by_cases c53 : t167 = t174
                    · rw [if_pos c53] at H
                      have c53b0 : (t167 == t174) = true := beq_iff_eq.mpr c53
                      have c53b1 : (t167 != t174) = false := bne_eq_false_iff_eq.mpr c53
                      clear c53
                      by_cases c54 : t168 = t175
                      · rw [if_pos c54] at H
                        have c54b0 : (t168 == t175) = true := beq_iff_eq.mpr c54
                        have c54b1 : (t168 != t175) = false := bne_eq_false_iff_eq.mpr c54
                        clear c54
                        by_cases c55 : t177.toList = t180.toList
                        · rw [if_pos c55] at H
                          have c55b0 : (t177.toList == t180.toList) = true := beq_iff_eq.mpr c55
                          have c55b1 : (t177.toList != t180.toList) = false := bne_eq_false_iff_eq.mpr c55
                          clear c55
                          by_cases c56 : t178 = t181
                          · rw [if_pos c56] at H
                            have c56b0 : (t178 == t181) = true := beq_iff_eq.mpr c56
                            have c56b1 : (t178 != t181) = false := bne_eq_false_iff_eq.mpr c56
                            clear c56
                            by_cases c57 : t179 = t182
                            · rw [if_pos c57] at H
                              have c57b0 : (t179 == t182) = true := beq_iff_eq.mpr c57
                              have c57b1 : (t179 != t182) = false := bne_eq_false_iff_eq.mpr c57
                              clear c57
                              replace H := Option.bind_eq_some_iff.mp H
                              obtain ⟨t184, A580, H⟩ := H
                              replace H : ((bywashref1_FrameName.f a2).bind fun t185 => (bywashlaw7_FrameTells.j1 kj3 a1 t159 true (t184.toList != t185.toList) a0_0 a0_1 a0_2 a0_3)) = some r := H
                              have A58 := Aside0.mk A580
                              clear A580
                              replace H := Option.bind_eq_some_iff.mp H
                              obtain ⟨t185, A590, H⟩ := H
                              replace H : (bywashlaw7_FrameTells.j1 kj3 a1 t159 true (t184.toList != t185.toList) a0_0 a0_1 a0_2 a0_3) = some r := H
                              have A59 := Aside0.mk A590
                              clear A590
                              have H' := Aside0.mk H
                              clear H
                              have hnb60 := NB156_169.out
                              have hnc60 := NB169_156.out
                              have hnb61 := NB156_176.out
                              have hnc61 := NB176_156.out
                              have hcz62_0 : w39.cell? ⟨gb156, 0, none⟩ = some (.int .i64 a0_0) := (blk_cell BK156.out 0).trans rfl
                              have hcz62_1 : w39.cell? ⟨gb156, 1, none⟩ = some (.int .i64 a0_1) := (blk_cell BK156.out 1).trans rfl
                              have hcz62_2 : w39.cell? ⟨gb156, 2, none⟩ = some (.int .i64 a0_2) := (blk_cell BK156.out 2).trans rfl
                              have hcz62_3 : w39.cell? ⟨gb156, 3, none⟩ = some (.string a0_3) := (blk_cell BK156.out 3).trans rfl
                              have hfz62_0 := blk_frozen BK156.out 0
                              have hfz62_1 := blk_frozen BK156.out 1
                              have hfz62_2 := blk_frozen BK156.out 2
                              have hfz62_3 := blk_frozen BK156.out 3
                              go_wp2_with (first | (go_at_call 16; (with_reducible refine (frame_Right.calls a0_0 a0_1 a0_2 a0_3 true _ A43.out).mono ?_); rintro e w63 ⟨rfl, hb⟩; have n0_ := Aside0.mk (blk_below (g := gb156) (o := .cells #[.int .i64 a0_0, .int .i64 a0_1, .int .i64 a0_2, .string a0_3] 23 (0, 0)) (by (with_reducible repeat (first | refine blk_drewN ?_ _ | refine blk_drew ?_ | refine blk_alloc ?_ _)); exact BK156.out) hb); have n1_ := Aside0.mk (blk_below (g := gb169) (o := .cells #[.int .i64 t163, .int .i64 t164, .int .i64 t165, .string t166] 23 (0, 0)) (by (with_reducible repeat (first | refine blk_drewN ?_ _ | refine blk_drew ?_ | refine blk_alloc ?_ _)); exact BK169.out) hb); have n2_ := Aside0.mk (blk_below (g := gb176) (o := .cells #[.int .i64 t170, .int .i64 t171, .int .i64 t172, .string t173] 23 (0, 0)) (by (with_reducible repeat (first | refine blk_drewN ?_ _ | refine blk_drew ?_ | refine blk_alloc ?_ _)); exact BK176.out) hb); have n3_ := Aside0.mk (below_step (by repeat (first | (with_reducible first | exact HB.out | apply below_alloc | apply pw_below_drewN | apply below_drew1 | refine below_set ?_ GE156.out | refine below_set ?_ GE169.out | refine below_set ?_ GE176.out) | exact HB.out)) hb); clear BK156; clear BK169; clear BK176; clear HB; have BK156 := n0_; have BK169 := n1_; have BK176 := n2_; have HB := n3_; clear n0_ n1_ n2_ n3_; (try clear hb); (try clear hb2); (try clear hk); (try clear hi); have hnb64 := NB169_176.out; have hnc64 := NB176_169.out; have hcz65_0 : w63.cell? ⟨gb169, 0, none⟩ = some (.int .i64 t163) := (blk_cell BK169.out 0).trans rfl; have hcz65_1 : w63.cell? ⟨gb169, 1, none⟩ = some (.int .i64 t164) := (blk_cell BK169.out 1).trans rfl; have hcz65_2 : w63.cell? ⟨gb169, 2, none⟩ = some (.int .i64 t165) := (blk_cell BK169.out 2).trans rfl; have hcz65_3 : w63.cell? ⟨gb169, 3, none⟩ = some (.string t166) := (blk_cell BK169.out 3).trans rfl; have hfz65_0 := blk_frozen BK169.out 0; have hfz65_1 := blk_frozen BK169.out 1; have hfz65_2 := blk_frozen BK169.out 2; have hfz65_3 := blk_frozen BK169.out 3; have hcz66_0 : w63.cell? ⟨gb176, 0, none⟩ = some (.int .i64 t170) := (blk_cell BK176.out 0).trans rfl; have hcz66_1 : w63.cell? ⟨gb176, 1, none⟩ = some (.int .i64 t171) := (blk_cell BK176.out 1).trans rfl; have hcz66_2 : w63.cell? ⟨gb176, 2, none⟩ = some (.int .i64 t172) := (blk_cell BK176.out 2).trans rfl; have hcz66_3 : w63.cell? ⟨gb176, 3, none⟩ = some (.string t173) := (blk_cell BK176.out 3).trans rfl; have hfz66_0 := blk_frozen BK176.out 0; have hfz66_1 := blk_frozen BK176.out 1; have hfz66_2 := blk_frozen BK176.out 2; have hfz66_3 := blk_frozen BK176.out 3) | (go_at_call 17; (with_reducible refine (frame_Name.calls a2 t184 _ A58.out).mono ?_); rintro e w67 ⟨rfl, hb⟩; have n0_ := Aside0.mk (blk_below (g := gb156) (o := .cells #[.int .i64 a0_0, .int .i64 a0_1, .int .i64 a0_2, .string a0_3] 23 (0, 0)) (by (with_reducible repeat (first | refine blk_drewN ?_ _ | refine blk_drew ?_ | refine blk_alloc ?_ _)); exact BK156.out) hb); have n1_ := Aside0.mk (blk_below (g := gb169) (o := .cells #[.int .i64 t163, .int .i64 t164, .int .i64 t165, .string t166] 23 (0, 0)) (by (with_reducible repeat (first | refine blk_drewN ?_ _ | refine blk_drew ?_ | refine blk_alloc ?_ _)); exact BK169.out) hb); have n2_ := Aside0.mk (blk_below (g := gb176) (o := .cells #[.int .i64 t170, .int .i64 t171, .int .i64 t172, .string t173] 23 (0, 0)) (by (with_reducible repeat (first | refine blk_drewN ?_ _ | refine blk_drew ?_ | refine blk_alloc ?_ _)); exact BK176.out) hb); have n3_ := Aside0.mk (below_step (by repeat (first | (with_reducible first | exact HB.out | apply below_alloc | apply pw_below_drewN | apply below_drew1 | refine below_set ?_ GE156.out | refine below_set ?_ GE169.out | refine below_set ?_ GE176.out) | exact HB.out)) hb); clear BK156; clear BK169; clear BK176; clear HB; have BK156 := n0_; have BK169 := n1_; have BK176 := n2_; have HB := n3_; clear n0_ n1_ n2_ n3_; (try clear hb); (try clear hb2); (try clear hk); (try clear hi)) | (go_at_call 18; (with_reducible refine (bywashref1_FrameName.calls a2 t185 _ A59.out).mono ?_); rintro e w68 ⟨rfl, hb⟩; have n0_ := Aside0.mk (blk_below (g := gb156) (o := .cells #[.int .i64 a0_0, .int .i64 a0_1, .int .i64 a0_2, .string a0_3] 23 (0, 0)) (by (with_reducible repeat (first | refine blk_drewN ?_ _ | refine blk_drew ?_ | refine blk_alloc ?_ _)); exact BK156.out) hb); have n1_ := Aside0.mk (blk_below (g := gb169) (o := .cells #[.int .i64 t163, .int .i64 t164, .int .i64 t165, .string t166] 23 (0, 0)) (by (with_reducible repeat (first | refine blk_drewN ?_ _ | refine blk_drew ?_ | refine blk_alloc ?_ _)); exact BK169.out) hb); have n2_ := Aside0.mk (blk_below (g := gb176) (o := .cells #[.int .i64 t170, .int .i64 t171, .int .i64 t172, .string t173] 23 (0, 0)) (by (with_reducible repeat (first | refine blk_drewN ?_ _ | refine blk_drew ?_ | refine blk_alloc ?_ _)); exact BK176.out) hb); have n3_ := Aside0.mk (below_step (by repeat (first | (with_reducible first | exact HB.out | apply below_alloc | apply pw_below_drewN | apply below_drew1 | refine below_set ?_ GE156.out | refine below_set ?_ GE169.out | refine below_set ?_ GE176.out) | exact HB.out)) hb); clear BK156; clear BK169; clear BK176; clear HB; have BK156 := n0_; have BK169 := n1_; have BK176 := n2_; have HB := n3_; clear n0_ n1_ n2_ n3_; (try clear hb); (try clear hb2); (try clear hk); (try clear hi)))
                              go_meet
                              case rel => exact ⟨_, ((t184.toList != t185.toList)), (by first | rfl | (simp; done) | (simp [*]; done)), H', ⟨by have := HJ3.out; first | omega | exact Nat.le_refl _⟩, ⟨by (with_reducible repeat (first | refine blk_drewN ?_ _ | refine blk_drew ?_ | refine blk_alloc ?_ _)); exact BK156.out⟩, ⟨by (with_reducible repeat (first | refine blk_drewN ?_ _ | refine blk_drew ?_ | refine blk_alloc ?_ _)); exact BK169.out⟩, ⟨by (with_reducible repeat (first | refine blk_drewN ?_ _ | refine blk_drew ?_ | refine blk_alloc ?_ _)); exact BK176.out⟩, ⟨by repeat (first | (with_reducible first | exact HB.out | apply below_alloc | apply pw_below_drewN | apply below_drew1 | refine below_set ?_ GE156.out | refine below_set ?_ GE169.out | refine below_set ?_ GE176.out) | exact HB.out)⟩⟩
                            · rw [if_neg c57] at H
                              have c57b0 : (t179 == t182) = false := beq_eq_false_iff_ne.mpr c57
                              have c57b1 : (t179 != t182) = true := bne_iff_ne.mpr c57
                              have H' := Aside0.mk H
                              clear H
                              have hnb69 := NB156_169.out
                              have hnc69 := NB169_156.out
                              have hnb70 := NB156_176.out
                              have hnc70 := NB176_156.out
                              have hcz71_0 : w39.cell? ⟨gb156, 0, none⟩ = some (.int .i64 a0_0) := (blk_cell BK156.out 0).trans rfl
                              have hcz71_1 : w39.cell? ⟨gb156, 1, none⟩ = some (.int .i64 a0_1) := (blk_cell BK156.out 1).trans rfl
                              have hcz71_2 : w39.cell? ⟨gb156, 2, none⟩ = some (.int .i64 a0_2) := (blk_cell BK156.out 2).trans rfl
                              have hcz71_3 : w39.cell? ⟨gb156, 3, none⟩ = some (.string a0_3) := (blk_cell BK156.out 3).trans rfl
                              have hfz71_0 := blk_frozen BK156.out 0
                              have hfz71_1 := blk_frozen BK156.out 1
                              have hfz71_2 := blk_frozen BK156.out 2
                              have hfz71_3 := blk_frozen BK156.out 3
                              go_wp2_with (first | (go_at_call 16; (with_reducible refine (frame_Right.calls a0_0 a0_1 a0_2 a0_3 true _ A43.out).mono ?_); rintro e w72 ⟨rfl, hb⟩; have n0_ := Aside0.mk (blk_below (g := gb156) (o := .cells #[.int .i64 a0_0, .int .i64 a0_1, .int .i64 a0_2, .string a0_3] 23 (0, 0)) (by (with_reducible repeat (first | refine blk_drewN ?_ _ | refine blk_drew ?_ | refine blk_alloc ?_ _)); exact BK156.out) hb); have n1_ := Aside0.mk (blk_below (g := gb169) (o := .cells #[.int .i64 t163, .int .i64 t164, .int .i64 t165, .string t166] 23 (0, 0)) (by (with_reducible repeat (first | refine blk_drewN ?_ _ | refine blk_drew ?_ | refine blk_alloc ?_ _)); exact BK169.out) hb); have n2_ := Aside0.mk (blk_below (g := gb176) (o := .cells #[.int .i64 t170, .int .i64 t171, .int .i64 t172, .string t173] 23 (0, 0)) (by (with_reducible repeat (first | refine blk_drewN ?_ _ | refine blk_drew ?_ | refine blk_alloc ?_ _)); exact BK176.out) hb); have n3_ := Aside0.mk (below_step (by repeat (first | (with_reducible first | exact HB.out | apply below_alloc | apply pw_below_drewN | apply below_drew1 | refine below_set ?_ GE156.out | refine below_set ?_ GE169.out | refine below_set ?_ GE176.out) | exact HB.out)) hb); clear BK156; clear BK169; clear BK176; clear HB; have BK156 := n0_; have BK169 := n1_; have BK176 := n2_; have HB := n3_; clear n0_ n1_ n2_ n3_; (try clear hb); (try clear hb2); (try clear hk); (try clear hi); have hnb73 := NB169_176.out; have hnc73 := NB176_169.out; have hcz74_0 : w72.cell? ⟨gb169, 0, none⟩ = some (.int .i64 t163) := (blk_cell BK169.out 0).trans rfl; have hcz74_1 : w72.cell? ⟨gb169, 1, none⟩ = some (.int .i64 t164) := (blk_cell BK169.out 1).trans rfl; have hcz74_2 : w72.cell? ⟨gb169, 2, none⟩ = some (.int .i64 t165) := (blk_cell BK169.out 2).trans rfl; have hcz74_3 : w72.cell? ⟨gb169, 3, none⟩ = some (.string t166) := (blk_cell BK169.out 3).trans rfl; have hfz74_0 := blk_frozen BK169.out 0; have hfz74_1 := blk_frozen BK169.out 1; have hfz74_2 := blk_frozen BK169.out 2; have hfz74_3 := blk_frozen BK169.out 3; have hcz75_0 : w72.cell? ⟨gb176, 0, none⟩ = some (.int .i64 t170) := (blk_cell BK176.out 0).trans rfl; have hcz75_1 : w72.cell? ⟨gb176, 1, none⟩ = some (.int .i64 t171) := (blk_cell BK176.out 1).trans rfl; have hcz75_2 : w72.cell? ⟨gb176, 2, none⟩ = some (.int .i64 t172) := (blk_cell BK176.out 2).trans rfl; have hcz75_3 : w72.cell? ⟨gb176, 3, none⟩ = some (.string t173) := (blk_cell BK176.out 3).trans rfl; have hfz75_0 := blk_frozen BK176.out 0; have hfz75_1 := blk_frozen BK176.out 1; have hfz75_2 := blk_frozen BK176.out 2; have hfz75_3 := blk_frozen BK176.out 3))
                              go_meet
                              case rel => exact ⟨_, (true), (by first | rfl | (simp; done) | (simp [*]; done)), H', ⟨by have := HJ3.out; first | omega | exact Nat.le_refl _⟩, ⟨by (with_reducible repeat (first | refine blk_drewN ?_ _ | refine blk_drew ?_ | refine blk_alloc ?_ _)); exact BK156.out⟩, ⟨by (with_reducible repeat (first | refine blk_drewN ?_ _ | refine blk_drew ?_ | refine blk_alloc ?_ _)); exact BK169.out⟩, ⟨by (with_reducible repeat (first | refine blk_drewN ?_ _ | refine blk_drew ?_ | refine blk_alloc ?_ _)); exact BK176.out⟩, ⟨by repeat (first | (with_reducible first | exact HB.out | apply below_alloc | apply pw_below_drewN | apply below_drew1 | refine below_set ?_ GE156.out | refine below_set ?_ GE169.out | refine below_set ?_ GE176.out) | exact HB.out)⟩⟩
                          · rw [if_neg c56] at H
                            have c56b0 : (t178 == t181) = false := beq_eq_false_iff_ne.mpr c56
                            have c56b1 : (t178 != t181) = true := bne_iff_ne.mpr c56
                            have H' := Aside0.mk H
                            clear H
                            have hnb76 := NB156_169.out
                            have hnc76 := NB169_156.out
                            have hnb77 := NB156_176.out
                            have hnc77 := NB176_156.out
                            have hcz78_0 : w39.cell? ⟨gb156, 0, none⟩ = some (.int .i64 a0_0) := (blk_cell BK156.out 0).trans rfl
                            have hcz78_1 : w39.cell? ⟨gb156, 1, none⟩ = some (.int .i64 a0_1) := (blk_cell BK156.out 1).trans rfl
                            have hcz78_2 : w39.cell? ⟨gb156, 2, none⟩ = some (.int .i64 a0_2) := (blk_cell BK156.out 2).trans rfl
                            have hcz78_3 : w39.cell? ⟨gb156, 3, none⟩ = some (.string a0_3) := (blk_cell BK156.out 3).trans rfl
                            have hfz78_0 := blk_frozen BK156.out 0
                            have hfz78_1 := blk_frozen BK156.out 1
                            have hfz78_2 := blk_frozen BK156.out 2
                            have hfz78_3 := blk_frozen BK156.out 3
                            go_wp2_with (first | (go_at_call 16; (with_reducible refine (frame_Right.calls a0_0 a0_1 a0_2 a0_3 true _ A43.out).mono ?_); rintro e w79 ⟨rfl, hb⟩; have n0_ := Aside0.mk (blk_below (g := gb156) (o := .cells #[.int .i64 a0_0, .int .i64 a0_1, .int .i64 a0_2, .string a0_3] 23 (0, 0)) (by (with_reducible repeat (first | refine blk_drewN ?_ _ | refine blk_drew ?_ | refine blk_alloc ?_ _)); exact BK156.out) hb); have n1_ := Aside0.mk (blk_below (g := gb169) (o := .cells #[.int .i64 t163, .int .i64 t164, .int .i64 t165, .string t166] 23 (0, 0)) (by (with_reducible repeat (first | refine blk_drewN ?_ _ | refine blk_drew ?_ | refine blk_alloc ?_ _)); exact BK169.out) hb); have n2_ := Aside0.mk (blk_below (g := gb176) (o := .cells #[.int .i64 t170, .int .i64 t171, .int .i64 t172, .string t173] 23 (0, 0)) (by (with_reducible repeat (first | refine blk_drewN ?_ _ | refine blk_drew ?_ | refine blk_alloc ?_ _)); exact BK176.out) hb); have n3_ := Aside0.mk (below_step (by repeat (first | (with_reducible first | exact HB.out | apply below_alloc | apply pw_below_drewN | apply below_drew1 | refine below_set ?_ GE156.out | refine below_set ?_ GE169.out | refine below_set ?_ GE176.out) | exact HB.out)) hb); clear BK156; clear BK169; clear BK176; clear HB; have BK156 := n0_; have BK169 := n1_; have BK176 := n2_; have HB := n3_; clear n0_ n1_ n2_ n3_; (try clear hb); (try clear hb2); (try clear hk); (try clear hi); have hnb80 := NB169_176.out; have hnc80 := NB176_169.out; have hcz81_0 : w79.cell? ⟨gb169, 0, none⟩ = some (.int .i64 t163) := (blk_cell BK169.out 0).trans rfl; have hcz81_1 : w79.cell? ⟨gb169, 1, none⟩ = some (.int .i64 t164) := (blk_cell BK169.out 1).trans rfl; have hcz81_2 : w79.cell? ⟨gb169, 2, none⟩ = some (.int .i64 t165) := (blk_cell BK169.out 2).trans rfl; have hcz81_3 : w79.cell? ⟨gb169, 3, none⟩ = some (.string t166) := (blk_cell BK169.out 3).trans rfl; have hfz81_0 := blk_frozen BK169.out 0; have hfz81_1 := blk_frozen BK169.out 1; have hfz81_2 := blk_frozen BK169.out 2; have hfz81_3 := blk_frozen BK169.out 3; have hcz82_0 : w79.cell? ⟨gb176, 0, none⟩ = some (.int .i64 t170) := (blk_cell BK176.out 0).trans rfl; have hcz82_1 : w79.cell? ⟨gb176, 1, none⟩ = some (.int .i64 t171) := (blk_cell BK176.out 1).trans rfl; have hcz82_2 : w79.cell? ⟨gb176, 2, none⟩ = some (.int .i64 t172) := (blk_cell BK176.out 2).trans rfl; have hcz82_3 : w79.cell? ⟨gb176, 3, none⟩ = some (.string t173) := (blk_cell BK176.out 3).trans rfl; have hfz82_0 := blk_frozen BK176.out 0; have hfz82_1 := blk_frozen BK176.out 1; have hfz82_2 := blk_frozen BK176.out 2; have hfz82_3 := blk_frozen BK176.out 3))
                            go_meet
                            case rel => exact ⟨_, (true), (by first | rfl | (simp; done) | (simp [*]; done)), H', ⟨by have := HJ3.out; first | omega | exact Nat.le_refl _⟩, ⟨by (with_reducible repeat (first | refine blk_drewN ?_ _ | refine blk_drew ?_ | refine blk_alloc ?_ _)); exact BK156.out⟩, ⟨by (with_reducible repeat (first | refine blk_drewN ?_ _ | refine blk_drew ?_ | refine blk_alloc ?_ _)); exact BK169.out⟩, ⟨by (with_reducible repeat (first | refine blk_drewN ?_ _ | refine blk_drew ?_ | refine blk_alloc ?_ _)); exact BK176.out⟩, ⟨by repeat (first | (with_reducible first | exact HB.out | apply below_alloc | apply pw_below_drewN | apply below_drew1 | refine below_set ?_ GE156.out | refine below_set ?_ GE169.out | refine below_set ?_ GE176.out) | exact HB.out)⟩⟩
                        · rw [if_neg c55] at H
                          have c55b0 : (t177.toList == t180.toList) = false := beq_eq_false_iff_ne.mpr c55
                          have c55b1 : (t177.toList != t180.toList) = true := bne_iff_ne.mpr c55
                          have H' := Aside0.mk H
                          clear H
                          have hnb83 := NB156_169.out
                          have hnc83 := NB169_156.out
                          have hnb84 := NB156_176.out
                          have hnc84 := NB176_156.out
                          have hcz85_0 : w39.cell? ⟨gb156, 0, none⟩ = some (.int .i64 a0_0) := (blk_cell BK156.out 0).trans rfl
                          have hcz85_1 : w39.cell? ⟨gb156, 1, none⟩ = some (.int .i64 a0_1) := (blk_cell BK156.out 1).trans rfl
                          have hcz85_2 : w39.cell? ⟨gb156, 2, none⟩ = some (.int .i64 a0_2) := (blk_cell BK156.out 2).trans rfl
                          have hcz85_3 : w39.cell? ⟨gb156, 3, none⟩ = some (.string a0_3) := (blk_cell BK156.out 3).trans rfl
                          have hfz85_0 := blk_frozen BK156.out 0
                          have hfz85_1 := blk_frozen BK156.out 1
                          have hfz85_2 := blk_frozen BK156.out 2
                          have hfz85_3 := blk_frozen BK156.out 3
                          go_wp2_with (first | (go_at_call 16; (with_reducible refine (frame_Right.calls a0_0 a0_1 a0_2 a0_3 true _ A43.out).mono ?_); rintro e w86 ⟨rfl, hb⟩; have n0_ := Aside0.mk (blk_below (g := gb156) (o := .cells #[.int .i64 a0_0, .int .i64 a0_1, .int .i64 a0_2, .string a0_3] 23 (0, 0)) (by (with_reducible repeat (first | refine blk_drewN ?_ _ | refine blk_drew ?_ | refine blk_alloc ?_ _)); exact BK156.out) hb); have n1_ := Aside0.mk (blk_below (g := gb169) (o := .cells #[.int .i64 t163, .int .i64 t164, .int .i64 t165, .string t166] 23 (0, 0)) (by (with_reducible repeat (first | refine blk_drewN ?_ _ | refine blk_drew ?_ | refine blk_alloc ?_ _)); exact BK169.out) hb); have n2_ := Aside0.mk (blk_below (g := gb176) (o := .cells #[.int .i64 t170, .int .i64 t171, .int .i64 t172, .string t173] 23 (0, 0)) (by (with_reducible repeat (first | refine blk_drewN ?_ _ | refine blk_drew ?_ | refine blk_alloc ?_ _)); exact BK176.out) hb); have n3_ := Aside0.mk (below_step (by repeat (first | (with_reducible first | exact HB.out | apply below_alloc | apply pw_below_drewN | apply below_drew1 | refine below_set ?_ GE156.out | refine below_set ?_ GE169.out | refine below_set ?_ GE176.out) | exact HB.out)) hb); clear BK156; clear BK169; clear BK176; clear HB; have BK156 := n0_; have BK169 := n1_; have BK176 := n2_; have HB := n3_; clear n0_ n1_ n2_ n3_; (try clear hb); (try clear hb2); (try clear hk); (try clear hi); have hnb87 := NB169_176.out; have hnc87 := NB176_169.out; have hcz88_0 : w86.cell? ⟨gb169, 0, none⟩ = some (.int .i64 t163) := (blk_cell BK169.out 0).trans rfl; have hcz88_1 : w86.cell? ⟨gb169, 1, none⟩ = some (.int .i64 t164) := (blk_cell BK169.out 1).trans rfl; have hcz88_2 : w86.cell? ⟨gb169, 2, none⟩ = some (.int .i64 t165) := (blk_cell BK169.out 2).trans rfl; have hcz88_3 : w86.cell? ⟨gb169, 3, none⟩ = some (.string t166) := (blk_cell BK169.out 3).trans rfl; have hfz88_0 := blk_frozen BK169.out 0; have hfz88_1 := blk_frozen BK169.out 1; have hfz88_2 := blk_frozen BK169.out 2; have hfz88_3 := blk_frozen BK169.out 3; have hcz89_0 : w86.cell? ⟨gb176, 0, none⟩ = some (.int .i64 t170) := (blk_cell BK176.out 0).trans rfl; have hcz89_1 : w86.cell? ⟨gb176, 1, none⟩ = some (.int .i64 t171) := (blk_cell BK176.out 1).trans rfl; have hcz89_2 : w86.cell? ⟨gb176, 2, none⟩ = some (.int .i64 t172) := (blk_cell BK176.out 2).trans rfl; have hcz89_3 : w86.cell? ⟨gb176, 3, none⟩ = some (.string t173) := (blk_cell BK176.out 3).trans rfl; have hfz89_0 := blk_frozen BK176.out 0; have hfz89_1 := blk_frozen BK176.out 1; have hfz89_2 := blk_frozen BK176.out 2; have hfz89_3 := blk_frozen BK176.out 3))
                          go_meet
                          case rel => exact ⟨_, (true), (by first | rfl | (simp; done) | (simp [*]; done)), H', ⟨by have := HJ3.out; first | omega | exact Nat.le_refl _⟩, ⟨by (with_reducible repeat (first | refine blk_drewN ?_ _ | refine blk_drew ?_ | refine blk_alloc ?_ _)); exact BK156.out⟩, ⟨by (with_reducible repeat (first | refine blk_drewN ?_ _ | refine blk_drew ?_ | refine blk_alloc ?_ _)); exact BK169.out⟩, ⟨by (with_reducible repeat (first | refine blk_drewN ?_ _ | refine blk_drew ?_ | refine blk_alloc ?_ _)); exact BK176.out⟩, ⟨by repeat (first | (with_reducible first | exact HB.out | apply below_alloc | apply pw_below_drewN | apply below_drew1 | refine below_set ?_ GE156.out | refine below_set ?_ GE169.out | refine below_set ?_ GE176.out) | exact HB.out)⟩⟩
                      · rw [if_neg c54] at H
                        have c54b0 : (t168 == t175) = false := beq_eq_false_iff_ne.mpr c54
                        have c54b1 : (t168 != t175) = true := bne_iff_ne.mpr c54
                        have H' := Aside0.mk H
                        clear H
                        have hnb90 := NB156_169.out
                        have hnc90 := NB169_156.out
                        have hnb91 := NB156_176.out
                        have hnc91 := NB176_156.out
                        have hcz92_0 : w39.cell? ⟨gb156, 0, none⟩ = some (.int .i64 a0_0) := (blk_cell BK156.out 0).trans rfl
                        have hcz92_1 : w39.cell? ⟨gb156, 1, none⟩ = some (.int .i64 a0_1) := (blk_cell BK156.out 1).trans rfl
                        have hcz92_2 : w39.cell? ⟨gb156, 2, none⟩ = some (.int .i64 a0_2) := (blk_cell BK156.out 2).trans rfl
                        have hcz92_3 : w39.cell? ⟨gb156, 3, none⟩ = some (.string a0_3) := (blk_cell BK156.out 3).trans rfl
                        have hfz92_0 := blk_frozen BK156.out 0
                        have hfz92_1 := blk_frozen BK156.out 1
                        have hfz92_2 := blk_frozen BK156.out 2
                        have hfz92_3 := blk_frozen BK156.out 3
                        go_wp2_with (first | (go_at_call 16; (with_reducible refine (frame_Right.calls a0_0 a0_1 a0_2 a0_3 true _ A43.out).mono ?_); rintro e w93 ⟨rfl, hb⟩; have n0_ := Aside0.mk (blk_below (g := gb156) (o := .cells #[.int .i64 a0_0, .int .i64 a0_1, .int .i64 a0_2, .string a0_3] 23 (0, 0)) (by (with_reducible repeat (first | refine blk_drewN ?_ _ | refine blk_drew ?_ | refine blk_alloc ?_ _)); exact BK156.out) hb); have n1_ := Aside0.mk (blk_below (g := gb169) (o := .cells #[.int .i64 t163, .int .i64 t164, .int .i64 t165, .string t166] 23 (0, 0)) (by (with_reducible repeat (first | refine blk_drewN ?_ _ | refine blk_drew ?_ | refine blk_alloc ?_ _)); exact BK169.out) hb); have n2_ := Aside0.mk (blk_below (g := gb176) (o := .cells #[.int .i64 t170, .int .i64 t171, .int .i64 t172, .string t173] 23 (0, 0)) (by (with_reducible repeat (first | refine blk_drewN ?_ _ | refine blk_drew ?_ | refine blk_alloc ?_ _)); exact BK176.out) hb); have n3_ := Aside0.mk (below_step (by repeat (first | (with_reducible first | exact HB.out | apply below_alloc | apply pw_below_drewN | apply below_drew1 | refine below_set ?_ GE156.out | refine below_set ?_ GE169.out | refine below_set ?_ GE176.out) | exact HB.out)) hb); clear BK156; clear BK169; clear BK176; clear HB; have BK156 := n0_; have BK169 := n1_; have BK176 := n2_; have HB := n3_; clear n0_ n1_ n2_ n3_; (try clear hb); (try clear hb2); (try clear hk); (try clear hi); have hnb94 := NB169_176.out; have hnc94 := NB176_169.out; have hcz95_0 : w93.cell? ⟨gb169, 0, none⟩ = some (.int .i64 t163) := (blk_cell BK169.out 0).trans rfl; have hcz95_1 : w93.cell? ⟨gb169, 1, none⟩ = some (.int .i64 t164) := (blk_cell BK169.out 1).trans rfl; have hcz95_2 : w93.cell? ⟨gb169, 2, none⟩ = some (.int .i64 t165) := (blk_cell BK169.out 2).trans rfl; have hcz95_3 : w93.cell? ⟨gb169, 3, none⟩ = some (.string t166) := (blk_cell BK169.out 3).trans rfl; have hfz95_0 := blk_frozen BK169.out 0; have hfz95_1 := blk_frozen BK169.out 1; have hfz95_2 := blk_frozen BK169.out 2; have hfz95_3 := blk_frozen BK169.out 3; have hcz96_0 : w93.cell? ⟨gb176, 0, none⟩ = some (.int .i64 t170) := (blk_cell BK176.out 0).trans rfl; have hcz96_1 : w93.cell? ⟨gb176, 1, none⟩ = some (.int .i64 t171) := (blk_cell BK176.out 1).trans rfl; have hcz96_2 : w93.cell? ⟨gb176, 2, none⟩ = some (.int .i64 t172) := (blk_cell BK176.out 2).trans rfl; have hcz96_3 : w93.cell? ⟨gb176, 3, none⟩ = some (.string t173) := (blk_cell BK176.out 3).trans rfl; have hfz96_0 := blk_frozen BK176.out 0; have hfz96_1 := blk_frozen BK176.out 1; have hfz96_2 := blk_frozen BK176.out 2; have hfz96_3 := blk_frozen BK176.out 3))
                        go_meet
                        case rel => exact ⟨_, (true), (by first | rfl | (simp; done) | (simp [*]; done)), H', ⟨by have := HJ3.out; first | omega | exact Nat.le_refl _⟩, ⟨by (with_reducible repeat (first | refine blk_drewN ?_ _ | refine blk_drew ?_ | refine blk_alloc ?_ _)); exact BK156.out⟩, ⟨by (with_reducible repeat (first | refine blk_drewN ?_ _ | refine blk_drew ?_ | refine blk_alloc ?_ _)); exact BK169.out⟩, ⟨by (with_reducible repeat (first | refine blk_drewN ?_ _ | refine blk_drew ?_ | refine blk_alloc ?_ _)); exact BK176.out⟩, ⟨by repeat (first | (with_reducible first | exact HB.out | apply below_alloc | apply pw_below_drewN | apply below_drew1 | refine below_set ?_ GE156.out | refine below_set ?_ GE169.out | refine below_set ?_ GE176.out) | exact HB.out)⟩⟩
                    · rw [if_neg c53] at H
                      have c53b0 : (t167 == t174) = false := beq_eq_false_iff_ne.mpr c53
                      have c53b1 : (t167 != t174) = true := bne_iff_ne.mpr c53
                      have H' := Aside0.mk H
                      clear H
                      have hnb97 := NB156_169.out
                      have hnc97 := NB169_156.out
                      have hnb98 := NB156_176.out
                      have hnc98 := NB176_156.out
                      have hcz99_0 : w39.cell? ⟨gb156, 0, none⟩ = some (.int .i64 a0_0) := (blk_cell BK156.out 0).trans rfl
                      have hcz99_1 : w39.cell? ⟨gb156, 1, none⟩ = some (.int .i64 a0_1) := (blk_cell BK156.out 1).trans rfl
                      have hcz99_2 : w39.cell? ⟨gb156, 2, none⟩ = some (.int .i64 a0_2) := (blk_cell BK156.out 2).trans rfl
                      have hcz99_3 : w39.cell? ⟨gb156, 3, none⟩ = some (.string a0_3) := (blk_cell BK156.out 3).trans rfl
                      have hfz99_0 := blk_frozen BK156.out 0
                      have hfz99_1 := blk_frozen BK156.out 1
                      have hfz99_2 := blk_frozen BK156.out 2
                      have hfz99_3 := blk_frozen BK156.out 3
                      go_wp2_with (first | (go_at_call 16; (with_reducible refine (frame_Right.calls a0_0 a0_1 a0_2 a0_3 true _ A43.out).mono ?_); rintro e w100 ⟨rfl, hb⟩; have n0_ := Aside0.mk (blk_below (g := gb156) (o := .cells #[.int .i64 a0_0, .int .i64 a0_1, .int .i64 a0_2, .string a0_3] 23 (0, 0)) (by (with_reducible repeat (first | refine blk_drewN ?_ _ | refine blk_drew ?_ | refine blk_alloc ?_ _)); exact BK156.out) hb); have n1_ := Aside0.mk (blk_below (g := gb169) (o := .cells #[.int .i64 t163, .int .i64 t164, .int .i64 t165, .string t166] 23 (0, 0)) (by (with_reducible repeat (first | refine blk_drewN ?_ _ | refine blk_drew ?_ | refine blk_alloc ?_ _)); exact BK169.out) hb); have n2_ := Aside0.mk (blk_below (g := gb176) (o := .cells #[.int .i64 t170, .int .i64 t171, .int .i64 t172, .string t173] 23 (0, 0)) (by (with_reducible repeat (first | refine blk_drewN ?_ _ | refine blk_drew ?_ | refine blk_alloc ?_ _)); exact BK176.out) hb); have n3_ := Aside0.mk (below_step (by repeat (first | (with_reducible first | exact HB.out | apply below_alloc | apply pw_below_drewN | apply below_drew1 | refine below_set ?_ GE156.out | refine below_set ?_ GE169.out | refine below_set ?_ GE176.out) | exact HB.out)) hb); clear BK156; clear BK169; clear BK176; clear HB; have BK156 := n0_; have BK169 := n1_; have BK176 := n2_; have HB := n3_; clear n0_ n1_ n2_ n3_; (try clear hb); (try clear hb2); (try clear hk); (try clear hi); have hnb101 := NB169_176.out; have hnc101 := NB176_169.out; have hcz102_0 : w100.cell? ⟨gb169, 0, none⟩ = some (.int .i64 t163) := (blk_cell BK169.out 0).trans rfl; have hcz102_1 : w100.cell? ⟨gb169, 1, none⟩ = some (.int .i64 t164) := (blk_cell BK169.out 1).trans rfl; have hcz102_2 : w100.cell? ⟨gb169, 2, none⟩ = some (.int .i64 t165) := (blk_cell BK169.out 2).trans rfl; have hcz102_3 : w100.cell? ⟨gb169, 3, none⟩ = some (.string t166) := (blk_cell BK169.out 3).trans rfl; have hfz102_0 := blk_frozen BK169.out 0; have hfz102_1 := blk_frozen BK169.out 1; have hfz102_2 := blk_frozen BK169.out 2; have hfz102_3 := blk_frozen BK169.out 3; have hcz103_0 : w100.cell? ⟨gb176, 0, none⟩ = some (.int .i64 t170) := (blk_cell BK176.out 0).trans rfl; have hcz103_1 : w100.cell? ⟨gb176, 1, none⟩ = some (.int .i64 t171) := (blk_cell BK176.out 1).trans rfl; have hcz103_2 : w100.cell? ⟨gb176, 2, none⟩ = some (.int .i64 t172) := (blk_cell BK176.out 2).trans rfl; have hcz103_3 : w100.cell? ⟨gb176, 3, none⟩ = some (.string t173) := (blk_cell BK176.out 3).trans rfl; have hfz103_0 := blk_frozen BK176.out 0; have hfz103_1 := blk_frozen BK176.out 1; have hfz103_2 := blk_frozen BK176.out 2; have hfz103_3 := blk_frozen BK176.out 3))
                      go_meet
                      case rel => exact ⟨_, (true), (by first | rfl | (simp; done) | (simp [*]; done)), H', ⟨by have := HJ3.out; first | omega | exact Nat.le_refl _⟩, ⟨by (with_reducible repeat (first | refine blk_drewN ?_ _ | refine blk_drew ?_ | refine blk_alloc ?_ _)); exact BK156.out⟩, ⟨by (with_reducible repeat (first | refine blk_drewN ?_ _ | refine blk_drew ?_ | refine blk_alloc ?_ _)); exact BK169.out⟩, ⟨by (with_reducible repeat (first | refine blk_drewN ?_ _ | refine blk_drew ?_ | refine blk_alloc ?_ _)); exact BK176.out⟩, ⟨by repeat (first | (with_reducible first | exact HB.out | apply below_alloc | apply pw_below_drewN | apply below_drew1 | refine below_set ?_ GE156.out | refine below_set ?_ GE169.out | refine below_set ?_ GE176.out) | exact HB.out)⟩⟩
                · replace c44 := Bool.eq_false_iff.mpr c44
                  subst c44
                  have H1 : (bywashlaw7_FrameTells.j1 kj3 a1 t159 true true a0_0 a0_1 a0_2 a0_3) = some r := by rw [if_neg (show ¬ (false = true) by decide)] at H; exact H
                  clear H
                  have H := H1
                  clear H1
                  have H' := Aside0.mk H
                  clear H
                  have hnb104 := NB156_169.out
                  have hnc104 := NB169_156.out
                  have hnb105 := NB156_176.out
                  have hnc105 := NB176_156.out
                  have hcz106_0 : w39.cell? ⟨gb156, 0, none⟩ = some (.int .i64 a0_0) := (blk_cell BK156.out 0).trans rfl
                  have hcz106_1 : w39.cell? ⟨gb156, 1, none⟩ = some (.int .i64 a0_1) := (blk_cell BK156.out 1).trans rfl
                  have hcz106_2 : w39.cell? ⟨gb156, 2, none⟩ = some (.int .i64 a0_2) := (blk_cell BK156.out 2).trans rfl
                  have hcz106_3 : w39.cell? ⟨gb156, 3, none⟩ = some (.string a0_3) := (blk_cell BK156.out 3).trans rfl
                  have hfz106_0 := blk_frozen BK156.out 0
                  have hfz106_1 := blk_frozen BK156.out 1
                  have hfz106_2 := blk_frozen BK156.out 2
                  have hfz106_3 := blk_frozen BK156.out 3
                  go_wp2_with (first | (go_at_call 16; (with_reducible refine (frame_Right.calls a0_0 a0_1 a0_2 a0_3 false _ A43.out).mono ?_); rintro e w107 ⟨rfl, hb⟩; have n0_ := Aside0.mk (blk_below (g := gb156) (o := .cells #[.int .i64 a0_0, .int .i64 a0_1, .int .i64 a0_2, .string a0_3] 23 (0, 0)) (by (with_reducible repeat (first | refine blk_drewN ?_ _ | refine blk_drew ?_ | refine blk_alloc ?_ _)); exact BK156.out) hb); have n1_ := Aside0.mk (blk_below (g := gb169) (o := .cells #[.int .i64 t163, .int .i64 t164, .int .i64 t165, .string t166] 23 (0, 0)) (by (with_reducible repeat (first | refine blk_drewN ?_ _ | refine blk_drew ?_ | refine blk_alloc ?_ _)); exact BK169.out) hb); have n2_ := Aside0.mk (blk_below (g := gb176) (o := .cells #[.int .i64 t170, .int .i64 t171, .int .i64 t172, .string t173] 23 (0, 0)) (by (with_reducible repeat (first | refine blk_drewN ?_ _ | refine blk_drew ?_ | refine blk_alloc ?_ _)); exact BK176.out) hb); have n3_ := Aside0.mk (below_step (by repeat (first | (with_reducible first | exact HB.out | apply below_alloc | apply pw_below_drewN | apply below_drew1 | refine below_set ?_ GE156.out | refine below_set ?_ GE169.out | refine below_set ?_ GE176.out) | exact HB.out)) hb); clear BK156; clear BK169; clear BK176; clear HB; have BK156 := n0_; have BK169 := n1_; have BK176 := n2_; have HB := n3_; clear n0_ n1_ n2_ n3_; (try clear hb); (try clear hb2); (try clear hk); (try clear hi)))
                  go_meet
                  case rel => exact ⟨_, (true), (by first | rfl | (simp; done) | (simp [*]; done)), H', ⟨by have := HJ3.out; first | omega | exact Nat.le_refl _⟩, ⟨by (with_reducible repeat (first | refine blk_drewN ?_ _ | refine blk_drew ?_ | refine blk_alloc ?_ _)); exact BK156.out⟩, ⟨by (with_reducible repeat (first | refine blk_drewN ?_ _ | refine blk_drew ?_ | refine blk_alloc ?_ _)); exact BK169.out⟩, ⟨by (with_reducible repeat (first | refine blk_drewN ?_ _ | refine blk_drew ?_ | refine blk_alloc ?_ _)); exact BK176.out⟩, ⟨by repeat (first | (with_reducible first | exact HB.out | apply below_alloc | apply pw_below_drewN | apply below_drew1 | refine below_set ?_ GE156.out | refine below_set ?_ GE169.out | refine below_set ?_ GE176.out) | exact HB.out)⟩⟩
              · replace c42 := Bool.eq_false_iff.mpr c42
                subst c42
                have H1 : (bywashlaw7_FrameTells.j1 kj3 a1 t159 true true a0_0 a0_1 a0_2 a0_3) = some r := by rw [if_neg (show ¬ (false = true) by decide)] at H; exact H
                clear H
                have H := H1
                clear H1
                have H' := Aside0.mk H
                clear H
                go_wp2
                go_meet
                case rel => exact ⟨_, (true), (by first | rfl | (simp; done) | (simp [*]; done)), H', ⟨by have := HJ3.out; first | omega | exact Nat.le_refl _⟩, ⟨by (with_reducible repeat (first | refine blk_drewN ?_ _ | refine blk_drew ?_ | refine blk_alloc ?_ _)); exact BK156.out⟩, ⟨by (with_reducible repeat (first | refine blk_drewN ?_ _ | refine blk_drew ?_ | refine blk_alloc ?_ _)); exact BK169.out⟩, ⟨by (with_reducible repeat (first | refine blk_drewN ?_ _ | refine blk_drew ?_ | refine blk_alloc ?_ _)); exact BK176.out⟩, ⟨by repeat (first | (with_reducible first | exact HB.out | apply below_alloc | apply pw_below_drewN | apply below_drew1 | refine below_set ?_ GE156.out | refine below_set ?_ GE169.out | refine below_set ?_ GE176.out) | exact HB.out)⟩⟩
            · replace c41 := Bool.eq_false_iff.mpr c41
              subst c41
              have H1 : (if t162 = true then (bywashlaw7_FrameTells.j1 kj3 a1 t159 false true a0_0 a0_1 a0_2 a0_3) else ((frame_Right.f a0_0 a0_1 a0_2 a0_3).bind fun t186 => (if t186 = true then (bywashlaw7_FrameTells.j1 kj3 a1 t159 false true a0_0 a0_1 a0_2 a0_3) else (if (!(t163 == t170) || (!(t164 == t171) || (!(t165 == t172) || (!(t166.toList == t173.toList))))) = true then (bywashlaw7_FrameTells.j1 kj3 a1 t159 false true a0_0 a0_1 a0_2 a0_3) else (if t167 = t174 then (if t168 = t175 then (if t177.toList = t180.toList then (if t178 = t181 then (if t179 = t182 then ((frame_Name.f a2).bind fun t187 => ((bywashref1_FrameName.f a2).bind fun t188 => (bywashlaw7_FrameTells.j1 kj3 a1 t159 false (t187.toList != t188.toList) a0_0 a0_1 a0_2 a0_3))) else (bywashlaw7_FrameTells.j1 kj3 a1 t159 false true a0_0 a0_1 a0_2 a0_3)) else (bywashlaw7_FrameTells.j1 kj3 a1 t159 false true a0_0 a0_1 a0_2 a0_3)) else (bywashlaw7_FrameTells.j1 kj3 a1 t159 false true a0_0 a0_1 a0_2 a0_3)) else (bywashlaw7_FrameTells.j1 kj3 a1 t159 false true a0_0 a0_1 a0_2 a0_3)) else (bywashlaw7_FrameTells.j1 kj3 a1 t159 false true a0_0 a0_1 a0_2 a0_3)))))) = some r := by rw [if_neg (show ¬ (false = true) by decide)] at H; exact H
              clear H
              have H := H1
              clear H1
              by_cases c108 : t162 = true
              · subst c108
                have H1 : (bywashlaw7_FrameTells.j1 kj3 a1 t159 false true a0_0 a0_1 a0_2 a0_3) = some r := by rw [if_pos rfl] at H; exact H
                clear H
                have H := H1
                clear H1
                have H' := Aside0.mk H
                clear H
                go_wp2
                go_meet
                case rel => exact ⟨_, (true), (by first | rfl | (simp; done) | (simp [*]; done)), H', ⟨by have := HJ3.out; first | omega | exact Nat.le_refl _⟩, ⟨by (with_reducible repeat (first | refine blk_drewN ?_ _ | refine blk_drew ?_ | refine blk_alloc ?_ _)); exact BK156.out⟩, ⟨by (with_reducible repeat (first | refine blk_drewN ?_ _ | refine blk_drew ?_ | refine blk_alloc ?_ _)); exact BK169.out⟩, ⟨by (with_reducible repeat (first | refine blk_drewN ?_ _ | refine blk_drew ?_ | refine blk_alloc ?_ _)); exact BK176.out⟩, ⟨by repeat (first | (with_reducible first | exact HB.out | apply below_alloc | apply pw_below_drewN | apply below_drew1 | refine below_set ?_ GE156.out | refine below_set ?_ GE169.out | refine below_set ?_ GE176.out) | exact HB.out)⟩⟩
              · replace c108 := Bool.eq_false_iff.mpr c108
                subst c108
                have H1 : ((frame_Right.f a0_0 a0_1 a0_2 a0_3).bind fun t186 => (if t186 = true then (bywashlaw7_FrameTells.j1 kj3 a1 t159 false true a0_0 a0_1 a0_2 a0_3) else (if (!(t163 == t170) || (!(t164 == t171) || (!(t165 == t172) || (!(t166.toList == t173.toList))))) = true then (bywashlaw7_FrameTells.j1 kj3 a1 t159 false true a0_0 a0_1 a0_2 a0_3) else (if t167 = t174 then (if t168 = t175 then (if t177.toList = t180.toList then (if t178 = t181 then (if t179 = t182 then ((frame_Name.f a2).bind fun t187 => ((bywashref1_FrameName.f a2).bind fun t188 => (bywashlaw7_FrameTells.j1 kj3 a1 t159 false (t187.toList != t188.toList) a0_0 a0_1 a0_2 a0_3))) else (bywashlaw7_FrameTells.j1 kj3 a1 t159 false true a0_0 a0_1 a0_2 a0_3)) else (bywashlaw7_FrameTells.j1 kj3 a1 t159 false true a0_0 a0_1 a0_2 a0_3)) else (bywashlaw7_FrameTells.j1 kj3 a1 t159 false true a0_0 a0_1 a0_2 a0_3)) else (bywashlaw7_FrameTells.j1 kj3 a1 t159 false true a0_0 a0_1 a0_2 a0_3)) else (bywashlaw7_FrameTells.j1 kj3 a1 t159 false true a0_0 a0_1 a0_2 a0_3))))) = some r := by rw [if_neg (show ¬ (false = true) by decide)] at H; exact H
                clear H
                have H := H1
                clear H1
                replace H := Option.bind_eq_some_iff.mp H
                obtain ⟨t186, A1090, H⟩ := H
                replace H : (if t186 = true then (bywashlaw7_FrameTells.j1 kj3 a1 t159 false true a0_0 a0_1 a0_2 a0_3) else (if (!(t163 == t170) || (!(t164 == t171) || (!(t165 == t172) || (!(t166.toList == t173.toList))))) = true then (bywashlaw7_FrameTells.j1 kj3 a1 t159 false true a0_0 a0_1 a0_2 a0_3) else (if t167 = t174 then (if t168 = t175 then (if t177.toList = t180.toList then (if t178 = t181 then (if t179 = t182 then ((frame_Name.f a2).bind fun t187 => ((bywashref1_FrameName.f a2).bind fun t188 => (bywashlaw7_FrameTells.j1 kj3 a1 t159 false (t187.toList != t188.toList) a0_0 a0_1 a0_2 a0_3))) else (bywashlaw7_FrameTells.j1 kj3 a1 t159 false true a0_0 a0_1 a0_2 a0_3)) else (bywashlaw7_FrameTells.j1 kj3 a1 t159 false true a0_0 a0_1 a0_2 a0_3)) else (bywashlaw7_FrameTells.j1 kj3 a1 t159 false true a0_0 a0_1 a0_2 a0_3)) else (bywashlaw7_FrameTells.j1 kj3 a1 t159 false true a0_0 a0_1 a0_2 a0_3)) else (bywashlaw7_FrameTells.j1 kj3 a1 t159 false true a0_0 a0_1 a0_2 a0_3)))) = some r := H
                have A109 := Aside0.mk A1090
                clear A1090
                by_cases c110 : t186 = true
                · subst c110
                  have H1 : (bywashlaw7_FrameTells.j1 kj3 a1 t159 false true a0_0 a0_1 a0_2 a0_3) = some r := by rw [if_pos rfl] at H; exact H
                  clear H
                  have H := H1
                  clear H1
                  have H' := Aside0.mk H
                  clear H
                  have hnb111 := NB156_169.out
                  have hnc111 := NB169_156.out
                  have hnb112 := NB156_176.out
                  have hnc112 := NB176_156.out
                  have hcz113_0 : w39.cell? ⟨gb156, 0, none⟩ = some (.int .i64 a0_0) := (blk_cell BK156.out 0).trans rfl
                  have hcz113_1 : w39.cell? ⟨gb156, 1, none⟩ = some (.int .i64 a0_1) := (blk_cell BK156.out 1).trans rfl
                  have hcz113_2 : w39.cell? ⟨gb156, 2, none⟩ = some (.int .i64 a0_2) := (blk_cell BK156.out 2).trans rfl
                  have hcz113_3 : w39.cell? ⟨gb156, 3, none⟩ = some (.string a0_3) := (blk_cell BK156.out 3).trans rfl
                  have hfz113_0 := blk_frozen BK156.out 0
                  have hfz113_1 := blk_frozen BK156.out 1
                  have hfz113_2 := blk_frozen BK156.out 2
                  have hfz113_3 := blk_frozen BK156.out 3
                  go_wp2_with (first | (go_at_call 16; (with_reducible refine (frame_Right.calls a0_0 a0_1 a0_2 a0_3 true _ A109.out).mono ?_); rintro e w114 ⟨rfl, hb⟩; have n0_ := Aside0.mk (blk_below (g := gb156) (o := .cells #[.int .i64 a0_0, .int .i64 a0_1, .int .i64 a0_2, .string a0_3] 23 (0, 0)) (by (with_reducible repeat (first | refine blk_drewN ?_ _ | refine blk_drew ?_ | refine blk_alloc ?_ _)); exact BK156.out) hb); have n1_ := Aside0.mk (blk_below (g := gb169) (o := .cells #[.int .i64 t163, .int .i64 t164, .int .i64 t165, .string t166] 23 (0, 0)) (by (with_reducible repeat (first | refine blk_drewN ?_ _ | refine blk_drew ?_ | refine blk_alloc ?_ _)); exact BK169.out) hb); have n2_ := Aside0.mk (blk_below (g := gb176) (o := .cells #[.int .i64 t170, .int .i64 t171, .int .i64 t172, .string t173] 23 (0, 0)) (by (with_reducible repeat (first | refine blk_drewN ?_ _ | refine blk_drew ?_ | refine blk_alloc ?_ _)); exact BK176.out) hb); have n3_ := Aside0.mk (below_step (by repeat (first | (with_reducible first | exact HB.out | apply below_alloc | apply pw_below_drewN | apply below_drew1 | refine below_set ?_ GE156.out | refine below_set ?_ GE169.out | refine below_set ?_ GE176.out) | exact HB.out)) hb); clear BK156; clear BK169; clear BK176; clear HB; have BK156 := n0_; have BK169 := n1_; have BK176 := n2_; have HB := n3_; clear n0_ n1_ n2_ n3_; (try clear hb); (try clear hb2); (try clear hk); (try clear hi)))
                  go_meet
                  case rel => exact ⟨_, (true), (by first | rfl | (simp; done) | (simp [*]; done)), H', ⟨by have := HJ3.out; first | omega | exact Nat.le_refl _⟩, ⟨by (with_reducible repeat (first | refine blk_drewN ?_ _ | refine blk_drew ?_ | refine blk_alloc ?_ _)); exact BK156.out⟩, ⟨by (with_reducible repeat (first | refine blk_drewN ?_ _ | refine blk_drew ?_ | refine blk_alloc ?_ _)); exact BK169.out⟩, ⟨by (with_reducible repeat (first | refine blk_drewN ?_ _ | refine blk_drew ?_ | refine blk_alloc ?_ _)); exact BK176.out⟩, ⟨by repeat (first | (with_reducible first | exact HB.out | apply below_alloc | apply pw_below_drewN | apply below_drew1 | refine below_set ?_ GE156.out | refine below_set ?_ GE169.out | refine below_set ?_ GE176.out) | exact HB.out)⟩⟩
                · replace c110 := Bool.eq_false_iff.mpr c110
                  subst c110
                  have H1 : (if (!(t163 == t170) || (!(t164 == t171) || (!(t165 == t172) || (!(t166.toList == t173.toList))))) = true then (bywashlaw7_FrameTells.j1 kj3 a1 t159 false true a0_0 a0_1 a0_2 a0_3) else (if t167 = t174 then (if t168 = t175 then (if t177.toList = t180.toList then (if t178 = t181 then (if t179 = t182 then ((frame_Name.f a2).bind fun t187 => ((bywashref1_FrameName.f a2).bind fun t188 => (bywashlaw7_FrameTells.j1 kj3 a1 t159 false (t187.toList != t188.toList) a0_0 a0_1 a0_2 a0_3))) else (bywashlaw7_FrameTells.j1 kj3 a1 t159 false true a0_0 a0_1 a0_2 a0_3)) else (bywashlaw7_FrameTells.j1 kj3 a1 t159 false true a0_0 a0_1 a0_2 a0_3)) else (bywashlaw7_FrameTells.j1 kj3 a1 t159 false true a0_0 a0_1 a0_2 a0_3)) else (bywashlaw7_FrameTells.j1 kj3 a1 t159 false true a0_0 a0_1 a0_2 a0_3)) else (bywashlaw7_FrameTells.j1 kj3 a1 t159 false true a0_0 a0_1 a0_2 a0_3))) = some r := by rw [if_neg (show ¬ (false = true) by decide)] at H; exact H
                  clear H
                  have H := H1
                  clear H1
                  by_cases c115 : (!(t163 == t170) || (!(t164 == t171) || (!(t165 == t172) || (!(t166.toList == t173.toList))))) = true
                  · rw [if_pos c115] at H
                    have c115b0 : (!(t163 == t170) || (!(t164 == t171) || (!(t165 == t172) || (!(t166.toList == t173.toList))))) = true := c115
                    clear c115
                    have H' := Aside0.mk H
                    clear H
                    have hnb116 := NB156_169.out
                    have hnc116 := NB169_156.out
                    have hnb117 := NB156_176.out
                    have hnc117 := NB176_156.out
                    have hcz118_0 : w39.cell? ⟨gb156, 0, none⟩ = some (.int .i64 a0_0) := (blk_cell BK156.out 0).trans rfl
                    have hcz118_1 : w39.cell? ⟨gb156, 1, none⟩ = some (.int .i64 a0_1) := (blk_cell BK156.out 1).trans rfl
                    have hcz118_2 : w39.cell? ⟨gb156, 2, none⟩ = some (.int .i64 a0_2) := (blk_cell BK156.out 2).trans rfl
                    have hcz118_3 : w39.cell? ⟨gb156, 3, none⟩ = some (.string a0_3) := (blk_cell BK156.out 3).trans rfl
                    have hfz118_0 := blk_frozen BK156.out 0
                    have hfz118_1 := blk_frozen BK156.out 1
                    have hfz118_2 := blk_frozen BK156.out 2
                    have hfz118_3 := blk_frozen BK156.out 3
                    go_wp2_with (first | (go_at_call 16; (with_reducible refine (frame_Right.calls a0_0 a0_1 a0_2 a0_3 false _ A109.out).mono ?_); rintro e w119 ⟨rfl, hb⟩; have n0_ := Aside0.mk (blk_below (g := gb156) (o := .cells #[.int .i64 a0_0, .int .i64 a0_1, .int .i64 a0_2, .string a0_3] 23 (0, 0)) (by (with_reducible repeat (first | refine blk_drewN ?_ _ | refine blk_drew ?_ | refine blk_alloc ?_ _)); exact BK156.out) hb); have n1_ := Aside0.mk (blk_below (g := gb169) (o := .cells #[.int .i64 t163, .int .i64 t164, .int .i64 t165, .string t166] 23 (0, 0)) (by (with_reducible repeat (first | refine blk_drewN ?_ _ | refine blk_drew ?_ | refine blk_alloc ?_ _)); exact BK169.out) hb); have n2_ := Aside0.mk (blk_below (g := gb176) (o := .cells #[.int .i64 t170, .int .i64 t171, .int .i64 t172, .string t173] 23 (0, 0)) (by (with_reducible repeat (first | refine blk_drewN ?_ _ | refine blk_drew ?_ | refine blk_alloc ?_ _)); exact BK176.out) hb); have n3_ := Aside0.mk (below_step (by repeat (first | (with_reducible first | exact HB.out | apply below_alloc | apply pw_below_drewN | apply below_drew1 | refine below_set ?_ GE156.out | refine below_set ?_ GE169.out | refine below_set ?_ GE176.out) | exact HB.out)) hb); clear BK156; clear BK169; clear BK176; clear HB; have BK156 := n0_; have BK169 := n1_; have BK176 := n2_; have HB := n3_; clear n0_ n1_ n2_ n3_; (try clear hb); (try clear hb2); (try clear hk); (try clear hi); have hnb120 := NB169_176.out; have hnc120 := NB176_169.out; have hcz121_0 : w119.cell? ⟨gb169, 0, none⟩ = some (.int .i64 t163) := (blk_cell BK169.out 0).trans rfl; have hcz121_1 : w119.cell? ⟨gb169, 1, none⟩ = some (.int .i64 t164) := (blk_cell BK169.out 1).trans rfl; have hcz121_2 : w119.cell? ⟨gb169, 2, none⟩ = some (.int .i64 t165) := (blk_cell BK169.out 2).trans rfl; have hcz121_3 : w119.cell? ⟨gb169, 3, none⟩ = some (.string t166) := (blk_cell BK169.out 3).trans rfl; have hfz121_0 := blk_frozen BK169.out 0; have hfz121_1 := blk_frozen BK169.out 1; have hfz121_2 := blk_frozen BK169.out 2; have hfz121_3 := blk_frozen BK169.out 3; have hcz122_0 : w119.cell? ⟨gb176, 0, none⟩ = some (.int .i64 t170) := (blk_cell BK176.out 0).trans rfl; have hcz122_1 : w119.cell? ⟨gb176, 1, none⟩ = some (.int .i64 t171) := (blk_cell BK176.out 1).trans rfl; have hcz122_2 : w119.cell? ⟨gb176, 2, none⟩ = some (.int .i64 t172) := (blk_cell BK176.out 2).trans rfl; have hcz122_3 : w119.cell? ⟨gb176, 3, none⟩ = some (.string t173) := (blk_cell BK176.out 3).trans rfl; have hfz122_0 := blk_frozen BK176.out 0; have hfz122_1 := blk_frozen BK176.out 1; have hfz122_2 := blk_frozen BK176.out 2; have hfz122_3 := blk_frozen BK176.out 3))
                    go_meet
                    case rel => exact ⟨_, (true), (by first | rfl | (simp; done) | (simp [*]; done)), H', ⟨by have := HJ3.out; first | omega | exact Nat.le_refl _⟩, ⟨by (with_reducible repeat (first | refine blk_drewN ?_ _ | refine blk_drew ?_ | refine blk_alloc ?_ _)); exact BK156.out⟩, ⟨by (with_reducible repeat (first | refine blk_drewN ?_ _ | refine blk_drew ?_ | refine blk_alloc ?_ _)); exact BK169.out⟩, ⟨by (with_reducible repeat (first | refine blk_drewN ?_ _ | refine blk_drew ?_ | refine blk_alloc ?_ _)); exact BK176.out⟩, ⟨by repeat (first | (with_reducible first | exact HB.out | apply below_alloc | apply pw_below_drewN | apply below_drew1 | refine below_set ?_ GE156.out | refine below_set ?_ GE169.out | refine below_set ?_ GE176.out) | exact HB.out)⟩⟩
                  · rw [if_neg c115] at H
                    have c115b0 : (!(t163 == t170) || (!(t164 == t171) || (!(t165 == t172) || (!(t166.toList == t173.toList))))) = false := by simpa using c115
                    clear c115
                    by_cases c123 : t167 = t174
                    · rw [if_pos c123] at H
                      have c123b0 : (t167 == t174) = true := beq_iff_eq.mpr c123
                      have c123b1 : (t167 != t174) = false := bne_eq_false_iff_eq.mpr c123
                      clear c123
                      by_cases c124 : t168 = t175
                      · rw [if_pos c124] at H
                        have c124b0 : (t168 == t175) = true := beq_iff_eq.mpr c124
                        have c124b1 : (t168 != t175) = false := bne_eq_false_iff_eq.mpr c124
                        clear c124
                        by_cases c125 : t177.toList = t180.toList
                        · rw [if_pos c125] at H
                          have c125b0 : (t177.toList == t180.toList) = true := beq_iff_eq.mpr c125
                          have c125b1 : (t177.toList != t180.toList) = false := bne_eq_false_iff_eq.mpr c125
                          clear c125
                          by_cases c126 : t178 = t181
                          · rw [if_pos c126] at H
                            have c126b0 : (t178 == t181) = true := beq_iff_eq.mpr c126
                            have c126b1 : (t178 != t181) = false := bne_eq_false_iff_eq.mpr c126
                            clear c126
                            by_cases c127 : t179 = t182
                            · rw [if_pos c127] at H
                              have c127b0 : (t179 == t182) = true := beq_iff_eq.mpr c127
                              have c127b1 : (t179 != t182) = false := bne_eq_false_iff_eq.mpr c127
                              clear c127
                              replace H := Option.bind_eq_some_iff.mp H
                              obtain ⟨t187, A1280, H⟩ := H
                              replace H : ((bywashref1_FrameName.f a2).bind fun t188 => (bywashlaw7_FrameTells.j1 kj3 a1 t159 false (t187.toList != t188.toList) a0_0 a0_1 a0_2 a0_3)) = some r := H
                              have A128 := Aside0.mk A1280
                              clear A1280
                              replace H := Option.bind_eq_some_iff.mp H
                              obtain ⟨t188, A1290, H⟩ := H
                              replace H : (bywashlaw7_FrameTells.j1 kj3 a1 t159 false (t187.toList != t188.toList) a0_0 a0_1 a0_2 a0_3) = some r := H
                              have A129 := Aside0.mk A1290
                              clear A1290
                              have H' := Aside0.mk H
                              clear H
                              have hnb130 := NB156_169.out
                              have hnc130 := NB169_156.out
                              have hnb131 := NB156_176.out
                              have hnc131 := NB176_156.out
                              have hcz132_0 : w39.cell? ⟨gb156, 0, none⟩ = some (.int .i64 a0_0) := (blk_cell BK156.out 0).trans rfl
                              have hcz132_1 : w39.cell? ⟨gb156, 1, none⟩ = some (.int .i64 a0_1) := (blk_cell BK156.out 1).trans rfl
                              have hcz132_2 : w39.cell? ⟨gb156, 2, none⟩ = some (.int .i64 a0_2) := (blk_cell BK156.out 2).trans rfl
                              have hcz132_3 : w39.cell? ⟨gb156, 3, none⟩ = some (.string a0_3) := (blk_cell BK156.out 3).trans rfl
                              have hfz132_0 := blk_frozen BK156.out 0
                              have hfz132_1 := blk_frozen BK156.out 1
                              have hfz132_2 := blk_frozen BK156.out 2
                              have hfz132_3 := blk_frozen BK156.out 3
                              go_wp2_with (first | (go_at_call 16; (with_reducible refine (frame_Right.calls a0_0 a0_1 a0_2 a0_3 false _ A109.out).mono ?_); rintro e w133 ⟨rfl, hb⟩; have n0_ := Aside0.mk (blk_below (g := gb156) (o := .cells #[.int .i64 a0_0, .int .i64 a0_1, .int .i64 a0_2, .string a0_3] 23 (0, 0)) (by (with_reducible repeat (first | refine blk_drewN ?_ _ | refine blk_drew ?_ | refine blk_alloc ?_ _)); exact BK156.out) hb); have n1_ := Aside0.mk (blk_below (g := gb169) (o := .cells #[.int .i64 t163, .int .i64 t164, .int .i64 t165, .string t166] 23 (0, 0)) (by (with_reducible repeat (first | refine blk_drewN ?_ _ | refine blk_drew ?_ | refine blk_alloc ?_ _)); exact BK169.out) hb); have n2_ := Aside0.mk (blk_below (g := gb176) (o := .cells #[.int .i64 t170, .int .i64 t171, .int .i64 t172, .string t173] 23 (0, 0)) (by (with_reducible repeat (first | refine blk_drewN ?_ _ | refine blk_drew ?_ | refine blk_alloc ?_ _)); exact BK176.out) hb); have n3_ := Aside0.mk (below_step (by repeat (first | (with_reducible first | exact HB.out | apply below_alloc | apply pw_below_drewN | apply below_drew1 | refine below_set ?_ GE156.out | refine below_set ?_ GE169.out | refine below_set ?_ GE176.out) | exact HB.out)) hb); clear BK156; clear BK169; clear BK176; clear HB; have BK156 := n0_; have BK169 := n1_; have BK176 := n2_; have HB := n3_; clear n0_ n1_ n2_ n3_; (try clear hb); (try clear hb2); (try clear hk); (try clear hi); have hnb134 := NB169_176.out; have hnc134 := NB176_169.out; have hcz135_0 : w133.cell? ⟨gb169, 0, none⟩ = some (.int .i64 t163) := (blk_cell BK169.out 0).trans rfl; have hcz135_1 : w133.cell? ⟨gb169, 1, none⟩ = some (.int .i64 t164) := (blk_cell BK169.out 1).trans rfl; have hcz135_2 : w133.cell? ⟨gb169, 2, none⟩ = some (.int .i64 t165) := (blk_cell BK169.out 2).trans rfl; have hcz135_3 : w133.cell? ⟨gb169, 3, none⟩ = some (.string t166) := (blk_cell BK169.out 3).trans rfl; have hfz135_0 := blk_frozen BK169.out 0; have hfz135_1 := blk_frozen BK169.out 1; have hfz135_2 := blk_frozen BK169.out 2; have hfz135_3 := blk_frozen BK169.out 3; have hcz136_0 : w133.cell? ⟨gb176, 0, none⟩ = some (.int .i64 t170) := (blk_cell BK176.out 0).trans rfl; have hcz136_1 : w133.cell? ⟨gb176, 1, none⟩ = some (.int .i64 t171) := (blk_cell BK176.out 1).trans rfl; have hcz136_2 : w133.cell? ⟨gb176, 2, none⟩ = some (.int .i64 t172) := (blk_cell BK176.out 2).trans rfl; have hcz136_3 : w133.cell? ⟨gb176, 3, none⟩ = some (.string t173) := (blk_cell BK176.out 3).trans rfl; have hfz136_0 := blk_frozen BK176.out 0; have hfz136_1 := blk_frozen BK176.out 1; have hfz136_2 := blk_frozen BK176.out 2; have hfz136_3 := blk_frozen BK176.out 3) | (go_at_call 17; (with_reducible refine (frame_Name.calls a2 t187 _ A128.out).mono ?_); rintro e w137 ⟨rfl, hb⟩; have n0_ := Aside0.mk (blk_below (g := gb156) (o := .cells #[.int .i64 a0_0, .int .i64 a0_1, .int .i64 a0_2, .string a0_3] 23 (0, 0)) (by (with_reducible repeat (first | refine blk_drewN ?_ _ | refine blk_drew ?_ | refine blk_alloc ?_ _)); exact BK156.out) hb); have n1_ := Aside0.mk (blk_below (g := gb169) (o := .cells #[.int .i64 t163, .int .i64 t164, .int .i64 t165, .string t166] 23 (0, 0)) (by (with_reducible repeat (first | refine blk_drewN ?_ _ | refine blk_drew ?_ | refine blk_alloc ?_ _)); exact BK169.out) hb); have n2_ := Aside0.mk (blk_below (g := gb176) (o := .cells #[.int .i64 t170, .int .i64 t171, .int .i64 t172, .string t173] 23 (0, 0)) (by (with_reducible repeat (first | refine blk_drewN ?_ _ | refine blk_drew ?_ | refine blk_alloc ?_ _)); exact BK176.out) hb); have n3_ := Aside0.mk (below_step (by repeat (first | (with_reducible first | exact HB.out | apply below_alloc | apply pw_below_drewN | apply below_drew1 | refine below_set ?_ GE156.out | refine below_set ?_ GE169.out | refine below_set ?_ GE176.out) | exact HB.out)) hb); clear BK156; clear BK169; clear BK176; clear HB; have BK156 := n0_; have BK169 := n1_; have BK176 := n2_; have HB := n3_; clear n0_ n1_ n2_ n3_; (try clear hb); (try clear hb2); (try clear hk); (try clear hi)) | (go_at_call 18; (with_reducible refine (bywashref1_FrameName.calls a2 t188 _ A129.out).mono ?_); rintro e w138 ⟨rfl, hb⟩; have n0_ := Aside0.mk (blk_below (g := gb156) (o := .cells #[.int .i64 a0_0, .int .i64 a0_1, .int .i64 a0_2, .string a0_3] 23 (0, 0)) (by (with_reducible repeat (first | refine blk_drewN ?_ _ | refine blk_drew ?_ | refine blk_alloc ?_ _)); exact BK156.out) hb); have n1_ := Aside0.mk (blk_below (g := gb169) (o := .cells #[.int .i64 t163, .int .i64 t164, .int .i64 t165, .string t166] 23 (0, 0)) (by (with_reducible repeat (first | refine blk_drewN ?_ _ | refine blk_drew ?_ | refine blk_alloc ?_ _)); exact BK169.out) hb); have n2_ := Aside0.mk (blk_below (g := gb176) (o := .cells #[.int .i64 t170, .int .i64 t171, .int .i64 t172, .string t173] 23 (0, 0)) (by (with_reducible repeat (first | refine blk_drewN ?_ _ | refine blk_drew ?_ | refine blk_alloc ?_ _)); exact BK176.out) hb); have n3_ := Aside0.mk (below_step (by repeat (first | (with_reducible first | exact HB.out | apply below_alloc | apply pw_below_drewN | apply below_drew1 | refine below_set ?_ GE156.out | refine below_set ?_ GE169.out | refine below_set ?_ GE176.out) | exact HB.out)) hb); clear BK156; clear BK169; clear BK176; clear HB; have BK156 := n0_; have BK169 := n1_; have BK176 := n2_; have HB := n3_; clear n0_ n1_ n2_ n3_; (try clear hb); (try clear hb2); (try clear hk); (try clear hi)))
                              go_meet
                              case rel => exact ⟨_, ((t187.toList != t188.toList)), (by first | rfl | (simp; done) | (simp [*]; done)), H', ⟨by have := HJ3.out; first | omega | exact Nat.le_refl _⟩, ⟨by (with_reducible repeat (first | refine blk_drewN ?_ _ | refine blk_drew ?_ | refine blk_alloc ?_ _)); exact BK156.out⟩, ⟨by (with_reducible repeat (first | refine blk_drewN ?_ _ | refine blk_drew ?_ | refine blk_alloc ?_ _)); exact BK169.out⟩, ⟨by (with_reducible repeat (first | refine blk_drewN ?_ _ | refine blk_drew ?_ | refine blk_alloc ?_ _)); exact BK176.out⟩, ⟨by repeat (first | (with_reducible first | exact HB.out | apply below_alloc | apply pw_below_drewN | apply below_drew1 | refine below_set ?_ GE156.out | refine below_set ?_ GE169.out | refine below_set ?_ GE176.out) | exact HB.out)⟩⟩
                            · rw [if_neg c127] at H
                              have c127b0 : (t179 == t182) = false := beq_eq_false_iff_ne.mpr c127
                              have c127b1 : (t179 != t182) = true := bne_iff_ne.mpr c127
                              have H' := Aside0.mk H
                              clear H
                              have hnb139 := NB156_169.out
                              have hnc139 := NB169_156.out
                              have hnb140 := NB156_176.out
                              have hnc140 := NB176_156.out
                              have hcz141_0 : w39.cell? ⟨gb156, 0, none⟩ = some (.int .i64 a0_0) := (blk_cell BK156.out 0).trans rfl
                              have hcz141_1 : w39.cell? ⟨gb156, 1, none⟩ = some (.int .i64 a0_1) := (blk_cell BK156.out 1).trans rfl
                              have hcz141_2 : w39.cell? ⟨gb156, 2, none⟩ = some (.int .i64 a0_2) := (blk_cell BK156.out 2).trans rfl
                              have hcz141_3 : w39.cell? ⟨gb156, 3, none⟩ = some (.string a0_3) := (blk_cell BK156.out 3).trans rfl
                              have hfz141_0 := blk_frozen BK156.out 0
                              have hfz141_1 := blk_frozen BK156.out 1
                              have hfz141_2 := blk_frozen BK156.out 2
                              have hfz141_3 := blk_frozen BK156.out 3
                              go_wp2_with (first | (go_at_call 16; (with_reducible refine (frame_Right.calls a0_0 a0_1 a0_2 a0_3 false _ A109.out).mono ?_); rintro e w142 ⟨rfl, hb⟩; have n0_ := Aside0.mk (blk_below (g := gb156) (o := .cells #[.int .i64 a0_0, .int .i64 a0_1, .int .i64 a0_2, .string a0_3] 23 (0, 0)) (by (with_reducible repeat (first | refine blk_drewN ?_ _ | refine blk_drew ?_ | refine blk_alloc ?_ _)); exact BK156.out) hb); have n1_ := Aside0.mk (blk_below (g := gb169) (o := .cells #[.int .i64 t163, .int .i64 t164, .int .i64 t165, .string t166] 23 (0, 0)) (by (with_reducible repeat (first | refine blk_drewN ?_ _ | refine blk_drew ?_ | refine blk_alloc ?_ _)); exact BK169.out) hb); have n2_ := Aside0.mk (blk_below (g := gb176) (o := .cells #[.int .i64 t170, .int .i64 t171, .int .i64 t172, .string t173] 23 (0, 0)) (by (with_reducible repeat (first | refine blk_drewN ?_ _ | refine blk_drew ?_ | refine blk_alloc ?_ _)); exact BK176.out) hb); have n3_ := Aside0.mk (below_step (by repeat (first | (with_reducible first | exact HB.out | apply below_alloc | apply pw_below_drewN | apply below_drew1 | refine below_set ?_ GE156.out | refine below_set ?_ GE169.out | refine below_set ?_ GE176.out) | exact HB.out)) hb); clear BK156; clear BK169; clear BK176; clear HB; have BK156 := n0_; have BK169 := n1_; have BK176 := n2_; have HB := n3_; clear n0_ n1_ n2_ n3_; (try clear hb); (try clear hb2); (try clear hk); (try clear hi); have hnb143 := NB169_176.out; have hnc143 := NB176_169.out; have hcz144_0 : w142.cell? ⟨gb169, 0, none⟩ = some (.int .i64 t163) := (blk_cell BK169.out 0).trans rfl; have hcz144_1 : w142.cell? ⟨gb169, 1, none⟩ = some (.int .i64 t164) := (blk_cell BK169.out 1).trans rfl; have hcz144_2 : w142.cell? ⟨gb169, 2, none⟩ = some (.int .i64 t165) := (blk_cell BK169.out 2).trans rfl; have hcz144_3 : w142.cell? ⟨gb169, 3, none⟩ = some (.string t166) := (blk_cell BK169.out 3).trans rfl; have hfz144_0 := blk_frozen BK169.out 0; have hfz144_1 := blk_frozen BK169.out 1; have hfz144_2 := blk_frozen BK169.out 2; have hfz144_3 := blk_frozen BK169.out 3; have hcz145_0 : w142.cell? ⟨gb176, 0, none⟩ = some (.int .i64 t170) := (blk_cell BK176.out 0).trans rfl; have hcz145_1 : w142.cell? ⟨gb176, 1, none⟩ = some (.int .i64 t171) := (blk_cell BK176.out 1).trans rfl; have hcz145_2 : w142.cell? ⟨gb176, 2, none⟩ = some (.int .i64 t172) := (blk_cell BK176.out 2).trans rfl; have hcz145_3 : w142.cell? ⟨gb176, 3, none⟩ = some (.string t173) := (blk_cell BK176.out 3).trans rfl; have hfz145_0 := blk_frozen BK176.out 0; have hfz145_1 := blk_frozen BK176.out 1; have hfz145_2 := blk_frozen BK176.out 2; have hfz145_3 := blk_frozen BK176.out 3))
                              go_meet
                              case rel => exact ⟨_, (true), (by first | rfl | (simp; done) | (simp [*]; done)), H', ⟨by have := HJ3.out; first | omega | exact Nat.le_refl _⟩, ⟨by (with_reducible repeat (first | refine blk_drewN ?_ _ | refine blk_drew ?_ | refine blk_alloc ?_ _)); exact BK156.out⟩, ⟨by (with_reducible repeat (first | refine blk_drewN ?_ _ | refine blk_drew ?_ | refine blk_alloc ?_ _)); exact BK169.out⟩, ⟨by (with_reducible repeat (first | refine blk_drewN ?_ _ | refine blk_drew ?_ | refine blk_alloc ?_ _)); exact BK176.out⟩, ⟨by repeat (first | (with_reducible first | exact HB.out | apply below_alloc | apply pw_below_drewN | apply below_drew1 | refine below_set ?_ GE156.out | refine below_set ?_ GE169.out | refine below_set ?_ GE176.out) | exact HB.out)⟩⟩
                          · rw [if_neg c126] at H
                            have c126b0 : (t178 == t181) = false := beq_eq_false_iff_ne.mpr c126
                            have c126b1 : (t178 != t181) = true := bne_iff_ne.mpr c126
                            have H' := Aside0.mk H
                            clear H
                            have hnb146 := NB156_169.out
                            have hnc146 := NB169_156.out
                            have hnb147 := NB156_176.out
                            have hnc147 := NB176_156.out
                            have hcz148_0 : w39.cell? ⟨gb156, 0, none⟩ = some (.int .i64 a0_0) := (blk_cell BK156.out 0).trans rfl
                            have hcz148_1 : w39.cell? ⟨gb156, 1, none⟩ = some (.int .i64 a0_1) := (blk_cell BK156.out 1).trans rfl
                            have hcz148_2 : w39.cell? ⟨gb156, 2, none⟩ = some (.int .i64 a0_2) := (blk_cell BK156.out 2).trans rfl
                            have hcz148_3 : w39.cell? ⟨gb156, 3, none⟩ = some (.string a0_3) := (blk_cell BK156.out 3).trans rfl
                            have hfz148_0 := blk_frozen BK156.out 0
                            have hfz148_1 := blk_frozen BK156.out 1
                            have hfz148_2 := blk_frozen BK156.out 2
                            have hfz148_3 := blk_frozen BK156.out 3
                            go_wp2_with (first | (go_at_call 16; (with_reducible refine (frame_Right.calls a0_0 a0_1 a0_2 a0_3 false _ A109.out).mono ?_); rintro e w149 ⟨rfl, hb⟩; have n0_ := Aside0.mk (blk_below (g := gb156) (o := .cells #[.int .i64 a0_0, .int .i64 a0_1, .int .i64 a0_2, .string a0_3] 23 (0, 0)) (by (with_reducible repeat (first | refine blk_drewN ?_ _ | refine blk_drew ?_ | refine blk_alloc ?_ _)); exact BK156.out) hb); have n1_ := Aside0.mk (blk_below (g := gb169) (o := .cells #[.int .i64 t163, .int .i64 t164, .int .i64 t165, .string t166] 23 (0, 0)) (by (with_reducible repeat (first | refine blk_drewN ?_ _ | refine blk_drew ?_ | refine blk_alloc ?_ _)); exact BK169.out) hb); have n2_ := Aside0.mk (blk_below (g := gb176) (o := .cells #[.int .i64 t170, .int .i64 t171, .int .i64 t172, .string t173] 23 (0, 0)) (by (with_reducible repeat (first | refine blk_drewN ?_ _ | refine blk_drew ?_ | refine blk_alloc ?_ _)); exact BK176.out) hb); have n3_ := Aside0.mk (below_step (by repeat (first | (with_reducible first | exact HB.out | apply below_alloc | apply pw_below_drewN | apply below_drew1 | refine below_set ?_ GE156.out | refine below_set ?_ GE169.out | refine below_set ?_ GE176.out) | exact HB.out)) hb); clear BK156; clear BK169; clear BK176; clear HB; have BK156 := n0_; have BK169 := n1_; have BK176 := n2_; have HB := n3_; clear n0_ n1_ n2_ n3_; (try clear hb); (try clear hb2); (try clear hk); (try clear hi); have hnb150 := NB169_176.out; have hnc150 := NB176_169.out; have hcz151_0 : w149.cell? ⟨gb169, 0, none⟩ = some (.int .i64 t163) := (blk_cell BK169.out 0).trans rfl; have hcz151_1 : w149.cell? ⟨gb169, 1, none⟩ = some (.int .i64 t164) := (blk_cell BK169.out 1).trans rfl; have hcz151_2 : w149.cell? ⟨gb169, 2, none⟩ = some (.int .i64 t165) := (blk_cell BK169.out 2).trans rfl; have hcz151_3 : w149.cell? ⟨gb169, 3, none⟩ = some (.string t166) := (blk_cell BK169.out 3).trans rfl; have hfz151_0 := blk_frozen BK169.out 0; have hfz151_1 := blk_frozen BK169.out 1; have hfz151_2 := blk_frozen BK169.out 2; have hfz151_3 := blk_frozen BK169.out 3; have hcz152_0 : w149.cell? ⟨gb176, 0, none⟩ = some (.int .i64 t170) := (blk_cell BK176.out 0).trans rfl; have hcz152_1 : w149.cell? ⟨gb176, 1, none⟩ = some (.int .i64 t171) := (blk_cell BK176.out 1).trans rfl; have hcz152_2 : w149.cell? ⟨gb176, 2, none⟩ = some (.int .i64 t172) := (blk_cell BK176.out 2).trans rfl; have hcz152_3 : w149.cell? ⟨gb176, 3, none⟩ = some (.string t173) := (blk_cell BK176.out 3).trans rfl; have hfz152_0 := blk_frozen BK176.out 0; have hfz152_1 := blk_frozen BK176.out 1; have hfz152_2 := blk_frozen BK176.out 2; have hfz152_3 := blk_frozen BK176.out 3))
                            go_meet
                            case rel => exact ⟨_, (true), (by first | rfl | (simp; done) | (simp [*]; done)), H', ⟨by have := HJ3.out; first | omega | exact Nat.le_refl _⟩, ⟨by (with_reducible repeat (first | refine blk_drewN ?_ _ | refine blk_drew ?_ | refine blk_alloc ?_ _)); exact BK156.out⟩, ⟨by (with_reducible repeat (first | refine blk_drewN ?_ _ | refine blk_drew ?_ | refine blk_alloc ?_ _)); exact BK169.out⟩, ⟨by (with_reducible repeat (first | refine blk_drewN ?_ _ | refine blk_drew ?_ | refine blk_alloc ?_ _)); exact BK176.out⟩, ⟨by repeat (first | (with_reducible first | exact HB.out | apply below_alloc | apply pw_below_drewN | apply below_drew1 | refine below_set ?_ GE156.out | refine below_set ?_ GE169.out | refine below_set ?_ GE176.out) | exact HB.out)⟩⟩
                        · rw [if_neg c125] at H
                          have c125b0 : (t177.toList == t180.toList) = false := beq_eq_false_iff_ne.mpr c125
                          have c125b1 : (t177.toList != t180.toList) = true := bne_iff_ne.mpr c125
                          have H' := Aside0.mk H
                          clear H
                          have hnb153 := NB156_169.out
                          have hnc153 := NB169_156.out
                          have hnb154 := NB156_176.out
                          have hnc154 := NB176_156.out
                          have hcz155_0 : w39.cell? ⟨gb156, 0, none⟩ = some (.int .i64 a0_0) := (blk_cell BK156.out 0).trans rfl
                          have hcz155_1 : w39.cell? ⟨gb156, 1, none⟩ = some (.int .i64 a0_1) := (blk_cell BK156.out 1).trans rfl
                          have hcz155_2 : w39.cell? ⟨gb156, 2, none⟩ = some (.int .i64 a0_2) := (blk_cell BK156.out 2).trans rfl
                          have hcz155_3 : w39.cell? ⟨gb156, 3, none⟩ = some (.string a0_3) := (blk_cell BK156.out 3).trans rfl
                          have hfz155_0 := blk_frozen BK156.out 0
                          have hfz155_1 := blk_frozen BK156.out 1
                          have hfz155_2 := blk_frozen BK156.out 2
                          have hfz155_3 := blk_frozen BK156.out 3
                          go_wp2_with (first | (go_at_call 16; (with_reducible refine (frame_Right.calls a0_0 a0_1 a0_2 a0_3 false _ A109.out).mono ?_); rintro e w156 ⟨rfl, hb⟩; have n0_ := Aside0.mk (blk_below (g := gb156) (o := .cells #[.int .i64 a0_0, .int .i64 a0_1, .int .i64 a0_2, .string a0_3] 23 (0, 0)) (by (with_reducible repeat (first | refine blk_drewN ?_ _ | refine blk_drew ?_ | refine blk_alloc ?_ _)); exact BK156.out) hb); have n1_ := Aside0.mk (blk_below (g := gb169) (o := .cells #[.int .i64 t163, .int .i64 t164, .int .i64 t165, .string t166] 23 (0, 0)) (by (with_reducible repeat (first | refine blk_drewN ?_ _ | refine blk_drew ?_ | refine blk_alloc ?_ _)); exact BK169.out) hb); have n2_ := Aside0.mk (blk_below (g := gb176) (o := .cells #[.int .i64 t170, .int .i64 t171, .int .i64 t172, .string t173] 23 (0, 0)) (by (with_reducible repeat (first | refine blk_drewN ?_ _ | refine blk_drew ?_ | refine blk_alloc ?_ _)); exact BK176.out) hb); have n3_ := Aside0.mk (below_step (by repeat (first | (with_reducible first | exact HB.out | apply below_alloc | apply pw_below_drewN | apply below_drew1 | refine below_set ?_ GE156.out | refine below_set ?_ GE169.out | refine below_set ?_ GE176.out) | exact HB.out)) hb); clear BK156; clear BK169; clear BK176; clear HB; have BK156 := n0_; have BK169 := n1_; have BK176 := n2_; have HB := n3_; clear n0_ n1_ n2_ n3_; (try clear hb); (try clear hb2); (try clear hk); (try clear hi); have hnb157 := NB169_176.out; have hnc157 := NB176_169.out; have hcz158_0 : w156.cell? ⟨gb169, 0, none⟩ = some (.int .i64 t163) := (blk_cell BK169.out 0).trans rfl; have hcz158_1 : w156.cell? ⟨gb169, 1, none⟩ = some (.int .i64 t164) := (blk_cell BK169.out 1).trans rfl; have hcz158_2 : w156.cell? ⟨gb169, 2, none⟩ = some (.int .i64 t165) := (blk_cell BK169.out 2).trans rfl; have hcz158_3 : w156.cell? ⟨gb169, 3, none⟩ = some (.string t166) := (blk_cell BK169.out 3).trans rfl; have hfz158_0 := blk_frozen BK169.out 0; have hfz158_1 := blk_frozen BK169.out 1; have hfz158_2 := blk_frozen BK169.out 2; have hfz158_3 := blk_frozen BK169.out 3; have hcz159_0 : w156.cell? ⟨gb176, 0, none⟩ = some (.int .i64 t170) := (blk_cell BK176.out 0).trans rfl; have hcz159_1 : w156.cell? ⟨gb176, 1, none⟩ = some (.int .i64 t171) := (blk_cell BK176.out 1).trans rfl; have hcz159_2 : w156.cell? ⟨gb176, 2, none⟩ = some (.int .i64 t172) := (blk_cell BK176.out 2).trans rfl; have hcz159_3 : w156.cell? ⟨gb176, 3, none⟩ = some (.string t173) := (blk_cell BK176.out 3).trans rfl; have hfz159_0 := blk_frozen BK176.out 0; have hfz159_1 := blk_frozen BK176.out 1; have hfz159_2 := blk_frozen BK176.out 2; have hfz159_3 := blk_frozen BK176.out 3))
                          go_meet
                          case rel => exact ⟨_, (true), (by first | rfl | (simp; done) | (simp [*]; done)), H', ⟨by have := HJ3.out; first | omega | exact Nat.le_refl _⟩, ⟨by (with_reducible repeat (first | refine blk_drewN ?_ _ | refine blk_drew ?_ | refine blk_alloc ?_ _)); exact BK156.out⟩, ⟨by (with_reducible repeat (first | refine blk_drewN ?_ _ | refine blk_drew ?_ | refine blk_alloc ?_ _)); exact BK169.out⟩, ⟨by (with_reducible repeat (first | refine blk_drewN ?_ _ | refine blk_drew ?_ | refine blk_alloc ?_ _)); exact BK176.out⟩, ⟨by repeat (first | (with_reducible first | exact HB.out | apply below_alloc | apply pw_below_drewN | apply below_drew1 | refine below_set ?_ GE156.out | refine below_set ?_ GE169.out | refine below_set ?_ GE176.out) | exact HB.out)⟩⟩
                      · rw [if_neg c124] at H
                        have c124b0 : (t168 == t175) = false := beq_eq_false_iff_ne.mpr c124
                        have c124b1 : (t168 != t175) = true := bne_iff_ne.mpr c124
                        have H' := Aside0.mk H
                        clear H
                        have hnb160 := NB156_169.out
                        have hnc160 := NB169_156.out
                        have hnb161 := NB156_176.out
                        have hnc161 := NB176_156.out
                        have hcz162_0 : w39.cell? ⟨gb156, 0, none⟩ = some (.int .i64 a0_0) := (blk_cell BK156.out 0).trans rfl
                        have hcz162_1 : w39.cell? ⟨gb156, 1, none⟩ = some (.int .i64 a0_1) := (blk_cell BK156.out 1).trans rfl
                        have hcz162_2 : w39.cell? ⟨gb156, 2, none⟩ = some (.int .i64 a0_2) := (blk_cell BK156.out 2).trans rfl
                        have hcz162_3 : w39.cell? ⟨gb156, 3, none⟩ = some (.string a0_3) := (blk_cell BK156.out 3).trans rfl
                        have hfz162_0 := blk_frozen BK156.out 0
                        have hfz162_1 := blk_frozen BK156.out 1
                        have hfz162_2 := blk_frozen BK156.out 2
                        have hfz162_3 := blk_frozen BK156.out 3
                        go_wp2_with (first | (go_at_call 16; (with_reducible refine (frame_Right.calls a0_0 a0_1 a0_2 a0_3 false _ A109.out).mono ?_); rintro e w163 ⟨rfl, hb⟩; have n0_ := Aside0.mk (blk_below (g := gb156) (o := .cells #[.int .i64 a0_0, .int .i64 a0_1, .int .i64 a0_2, .string a0_3] 23 (0, 0)) (by (with_reducible repeat (first | refine blk_drewN ?_ _ | refine blk_drew ?_ | refine blk_alloc ?_ _)); exact BK156.out) hb); have n1_ := Aside0.mk (blk_below (g := gb169) (o := .cells #[.int .i64 t163, .int .i64 t164, .int .i64 t165, .string t166] 23 (0, 0)) (by (with_reducible repeat (first | refine blk_drewN ?_ _ | refine blk_drew ?_ | refine blk_alloc ?_ _)); exact BK169.out) hb); have n2_ := Aside0.mk (blk_below (g := gb176) (o := .cells #[.int .i64 t170, .int .i64 t171, .int .i64 t172, .string t173] 23 (0, 0)) (by (with_reducible repeat (first | refine blk_drewN ?_ _ | refine blk_drew ?_ | refine blk_alloc ?_ _)); exact BK176.out) hb); have n3_ := Aside0.mk (below_step (by repeat (first | (with_reducible first | exact HB.out | apply below_alloc | apply pw_below_drewN | apply below_drew1 | refine below_set ?_ GE156.out | refine below_set ?_ GE169.out | refine below_set ?_ GE176.out) | exact HB.out)) hb); clear BK156; clear BK169; clear BK176; clear HB; have BK156 := n0_; have BK169 := n1_; have BK176 := n2_; have HB := n3_; clear n0_ n1_ n2_ n3_; (try clear hb); (try clear hb2); (try clear hk); (try clear hi); have hnb164 := NB169_176.out; have hnc164 := NB176_169.out; have hcz165_0 : w163.cell? ⟨gb169, 0, none⟩ = some (.int .i64 t163) := (blk_cell BK169.out 0).trans rfl; have hcz165_1 : w163.cell? ⟨gb169, 1, none⟩ = some (.int .i64 t164) := (blk_cell BK169.out 1).trans rfl; have hcz165_2 : w163.cell? ⟨gb169, 2, none⟩ = some (.int .i64 t165) := (blk_cell BK169.out 2).trans rfl; have hcz165_3 : w163.cell? ⟨gb169, 3, none⟩ = some (.string t166) := (blk_cell BK169.out 3).trans rfl; have hfz165_0 := blk_frozen BK169.out 0; have hfz165_1 := blk_frozen BK169.out 1; have hfz165_2 := blk_frozen BK169.out 2; have hfz165_3 := blk_frozen BK169.out 3; have hcz166_0 : w163.cell? ⟨gb176, 0, none⟩ = some (.int .i64 t170) := (blk_cell BK176.out 0).trans rfl; have hcz166_1 : w163.cell? ⟨gb176, 1, none⟩ = some (.int .i64 t171) := (blk_cell BK176.out 1).trans rfl; have hcz166_2 : w163.cell? ⟨gb176, 2, none⟩ = some (.int .i64 t172) := (blk_cell BK176.out 2).trans rfl; have hcz166_3 : w163.cell? ⟨gb176, 3, none⟩ = some (.string t173) := (blk_cell BK176.out 3).trans rfl; have hfz166_0 := blk_frozen BK176.out 0; have hfz166_1 := blk_frozen BK176.out 1; have hfz166_2 := blk_frozen BK176.out 2; have hfz166_3 := blk_frozen BK176.out 3))
                        go_meet
                        case rel => exact ⟨_, (true), (by first | rfl | (simp; done) | (simp [*]; done)), H', ⟨by have := HJ3.out; first | omega | exact Nat.le_refl _⟩, ⟨by (with_reducible repeat (first | refine blk_drewN ?_ _ | refine blk_drew ?_ | refine blk_alloc ?_ _)); exact BK156.out⟩, ⟨by (with_reducible repeat (first | refine blk_drewN ?_ _ | refine blk_drew ?_ | refine blk_alloc ?_ _)); exact BK169.out⟩, ⟨by (with_reducible repeat (first | refine blk_drewN ?_ _ | refine blk_drew ?_ | refine blk_alloc ?_ _)); exact BK176.out⟩, ⟨by repeat (first | (with_reducible first | exact HB.out | apply below_alloc | apply pw_below_drewN | apply below_drew1 | refine below_set ?_ GE156.out | refine below_set ?_ GE169.out | refine below_set ?_ GE176.out) | exact HB.out)⟩⟩
                    · rw [if_neg c123] at H
                      have c123b0 : (t167 == t174) = false := beq_eq_false_iff_ne.mpr c123
                      have c123b1 : (t167 != t174) = true := bne_iff_ne.mpr c123
                      have H' := Aside0.mk H
                      clear H
                      have hnb167 := NB156_169.out
                      have hnc167 := NB169_156.out
                      have hnb168 := NB156_176.out
                      have hnc168 := NB176_156.out
                      have hcz169_0 : w39.cell? ⟨gb156, 0, none⟩ = some (.int .i64 a0_0) := (blk_cell BK156.out 0).trans rfl
                      have hcz169_1 : w39.cell? ⟨gb156, 1, none⟩ = some (.int .i64 a0_1) := (blk_cell BK156.out 1).trans rfl
                      have hcz169_2 : w39.cell? ⟨gb156, 2, none⟩ = some (.int .i64 a0_2) := (blk_cell BK156.out 2).trans rfl
                      have hcz169_3 : w39.cell? ⟨gb156, 3, none⟩ = some (.string a0_3) := (blk_cell BK156.out 3).trans rfl
                      have hfz169_0 := blk_frozen BK156.out 0
                      have hfz169_1 := blk_frozen BK156.out 1
                      have hfz169_2 := blk_frozen BK156.out 2
                      have hfz169_3 := blk_frozen BK156.out 3
                      go_wp2_with (first | (go_at_call 16; (with_reducible refine (frame_Right.calls a0_0 a0_1 a0_2 a0_3 false _ A109.out).mono ?_); rintro e w170 ⟨rfl, hb⟩; have n0_ := Aside0.mk (blk_below (g := gb156) (o := .cells #[.int .i64 a0_0, .int .i64 a0_1, .int .i64 a0_2, .string a0_3] 23 (0, 0)) (by (with_reducible repeat (first | refine blk_drewN ?_ _ | refine blk_drew ?_ | refine blk_alloc ?_ _)); exact BK156.out) hb); have n1_ := Aside0.mk (blk_below (g := gb169) (o := .cells #[.int .i64 t163, .int .i64 t164, .int .i64 t165, .string t166] 23 (0, 0)) (by (with_reducible repeat (first | refine blk_drewN ?_ _ | refine blk_drew ?_ | refine blk_alloc ?_ _)); exact BK169.out) hb); have n2_ := Aside0.mk (blk_below (g := gb176) (o := .cells #[.int .i64 t170, .int .i64 t171, .int .i64 t172, .string t173] 23 (0, 0)) (by (with_reducible repeat (first | refine blk_drewN ?_ _ | refine blk_drew ?_ | refine blk_alloc ?_ _)); exact BK176.out) hb); have n3_ := Aside0.mk (below_step (by repeat (first | (with_reducible first | exact HB.out | apply below_alloc | apply pw_below_drewN | apply below_drew1 | refine below_set ?_ GE156.out | refine below_set ?_ GE169.out | refine below_set ?_ GE176.out) | exact HB.out)) hb); clear BK156; clear BK169; clear BK176; clear HB; have BK156 := n0_; have BK169 := n1_; have BK176 := n2_; have HB := n3_; clear n0_ n1_ n2_ n3_; (try clear hb); (try clear hb2); (try clear hk); (try clear hi); have hnb171 := NB169_176.out; have hnc171 := NB176_169.out; have hcz172_0 : w170.cell? ⟨gb169, 0, none⟩ = some (.int .i64 t163) := (blk_cell BK169.out 0).trans rfl; have hcz172_1 : w170.cell? ⟨gb169, 1, none⟩ = some (.int .i64 t164) := (blk_cell BK169.out 1).trans rfl; have hcz172_2 : w170.cell? ⟨gb169, 2, none⟩ = some (.int .i64 t165) := (blk_cell BK169.out 2).trans rfl; have hcz172_3 : w170.cell? ⟨gb169, 3, none⟩ = some (.string t166) := (blk_cell BK169.out 3).trans rfl; have hfz172_0 := blk_frozen BK169.out 0; have hfz172_1 := blk_frozen BK169.out 1; have hfz172_2 := blk_frozen BK169.out 2; have hfz172_3 := blk_frozen BK169.out 3; have hcz173_0 : w170.cell? ⟨gb176, 0, none⟩ = some (.int .i64 t170) := (blk_cell BK176.out 0).trans rfl; have hcz173_1 : w170.cell? ⟨gb176, 1, none⟩ = some (.int .i64 t171) := (blk_cell BK176.out 1).trans rfl; have hcz173_2 : w170.cell? ⟨gb176, 2, none⟩ = some (.int .i64 t172) := (blk_cell BK176.out 2).trans rfl; have hcz173_3 : w170.cell? ⟨gb176, 3, none⟩ = some (.string t173) := (blk_cell BK176.out 3).trans rfl; have hfz173_0 := blk_frozen BK176.out 0; have hfz173_1 := blk_frozen BK176.out 1; have hfz173_2 := blk_frozen BK176.out 2; have hfz173_3 := blk_frozen BK176.out 3))
                      go_meet
                      case rel => exact ⟨_, (true), (by first | rfl | (simp; done) | (simp [*]; done)), H', ⟨by have := HJ3.out; first | omega | exact Nat.le_refl _⟩, ⟨by (with_reducible repeat (first | refine blk_drewN ?_ _ | refine blk_drew ?_ | refine blk_alloc ?_ _)); exact BK156.out⟩, ⟨by (with_reducible repeat (first | refine blk_drewN ?_ _ | refine blk_drew ?_ | refine blk_alloc ?_ _)); exact BK169.out⟩, ⟨by (with_reducible repeat (first | refine blk_drewN ?_ _ | refine blk_drew ?_ | refine blk_alloc ?_ _)); exact BK176.out⟩, ⟨by repeat (first | (with_reducible first | exact HB.out | apply below_alloc | apply pw_below_drewN | apply below_drew1 | refine below_set ?_ GE156.out | refine below_set ?_ GE169.out | refine below_set ?_ GE176.out) | exact HB.out)⟩⟩
          · rw [if_neg c40] at H
            have c40b0 : (t159.toList == t161.toList) = false := beq_eq_false_iff_ne.mpr c40
            have c40b1 : (t159.toList != t161.toList) = true := bne_iff_ne.mpr c40
            (first | rw [c40b0] | (simp only [i64_w, i32_w]; rw [c40b0]) | skip)
            have H' := Aside0.mk H
            clear H
            go_wp2
            go_meet
            case rel => exact ⟨_, (true), (by first | rfl | (simp; done) | (simp [*]; done)), H', ⟨by have := HJ3.out; first | omega | exact Nat.le_refl _⟩, ⟨by (with_reducible repeat (first | refine blk_drewN ?_ _ | refine blk_drew ?_ | refine blk_alloc ?_ _)); exact BK156.out⟩, ⟨by (with_reducible repeat (first | refine blk_drewN ?_ _ | refine blk_drew ?_ | refine blk_alloc ?_ _)); exact BK169.out⟩, ⟨by (with_reducible repeat (first | refine blk_drewN ?_ _ | refine blk_drew ?_ | refine blk_alloc ?_ _)); exact BK176.out⟩, ⟨by repeat (first | (with_reducible first | exact HB.out | apply below_alloc | apply pw_below_drewN | apply below_drew1 | refine below_set ?_ GE156.out | refine below_set ?_ GE169.out | refine below_set ?_ GE176.out) | exact HB.out)⟩⟩
        case rest =>
          clear HC22
          try clear c1
          try clear c2
          try clear p2
          try clear c3
          try clear c4
          try clear c5
          try clear c6
          try clear c6b0
          try clear c6b1
          try clear c7
          try clear c8
          try clear c8b0
          try clear c8b1
          try clear c9
          try clear c10
          try clear c11
          try clear c12
          try clear c13
          try clear c14
          try clear c15
          try clear c16
          try clear c17
          try clear c29
          try clear c33
          try clear c34
          try clear c40
          try clear c40b0
          try clear c40b1
          try clear c41
          try clear c42
          try clear c44
          try clear c45
          try clear c45b0
          try clear c46
          try clear c47
          try clear c50
          try clear c53
          try clear c53b0
          try clear c53b1
          try clear c54
          try clear c54b0
          try clear c54b1
          try clear c55
          try clear c55b0
          try clear c55b1
          try clear c56
          try clear c56b0
          try clear c56b1
          try clear c57
          try clear c57b0
          try clear c57b1
          try clear c60
          try clear c61
          try clear c64
          try clear c69
          try clear c70
          try clear c73
          try clear c76
          try clear c77
          try clear c80
          try clear c83
          try clear c84
          try clear c87
          try clear c90
          try clear c91
          try clear c94
          try clear c97
          try clear c98
          try clear c101
          try clear c104
          try clear c105
          try clear c108
          try clear c110
          try clear c111
          try clear c112
          try clear c115
          try clear c115b0
          try clear c116
          try clear c117
          try clear c120
          try clear c123
          try clear c123b0
          try clear c123b1
          try clear c124
          try clear c124b0
          try clear c124b1
          try clear c125
          try clear c125b0
          try clear c125b1
          try clear c126
          try clear c126b0
          try clear c126b1
          try clear c127
          try clear c127b0
          try clear c127b1
          try clear c130
          try clear c131
          try clear c134
          try clear c139
          try clear c140
          try clear c143
          try clear c146
          try clear c147
          try clear c150
          try clear c153
          try clear c154
          try clear c157
          try clear c160
          try clear c161
          try clear c164
          try clear c167
          try clear c168
          try clear c171
          try clear hcz102_0
          try clear hcz102_1
          try clear hcz102_2
          try clear hcz102_3
          try clear hcz103_0
          try clear hcz103_1
          try clear hcz103_2
          try clear hcz103_3
          try clear hcz106_0
          try clear hcz106_1
          try clear hcz106_2
          try clear hcz106_3
          try clear hcz113_0
          try clear hcz113_1
          try clear hcz113_2
          try clear hcz113_3
          try clear hcz118_0
          try clear hcz118_1
          try clear hcz118_2
          try clear hcz118_3
          try clear hcz11_0
          try clear hcz11_1
          try clear hcz11_2
          try clear hcz11_3
          try clear hcz121_0
          try clear hcz121_1
          try clear hcz121_2
          try clear hcz121_3
          try clear hcz122_0
          try clear hcz122_1
          try clear hcz122_2
          try clear hcz122_3
          try clear hcz132_0
          try clear hcz132_1
          try clear hcz132_2
          try clear hcz132_3
          try clear hcz135_0
          try clear hcz135_1
          try clear hcz135_2
          try clear hcz135_3
          try clear hcz136_0
          try clear hcz136_1
          try clear hcz136_2
          try clear hcz136_3
          try clear hcz141_0
          try clear hcz141_1
          try clear hcz141_2
          try clear hcz141_3
          try clear hcz144_0
          try clear hcz144_1
          try clear hcz144_2
          try clear hcz144_3
          try clear hcz145_0
          try clear hcz145_1
          try clear hcz145_2
          try clear hcz145_3
          try clear hcz148_0
          try clear hcz148_1
          try clear hcz148_2
          try clear hcz148_3
          try clear hcz151_0
          try clear hcz151_1
          try clear hcz151_2
          try clear hcz151_3
          try clear hcz152_0
          try clear hcz152_1
          try clear hcz152_2
          try clear hcz152_3
          try clear hcz155_0
          try clear hcz155_1
          try clear hcz155_2
          try clear hcz155_3
          try clear hcz158_0
          try clear hcz158_1
          try clear hcz158_2
          try clear hcz158_3
          try clear hcz159_0
          try clear hcz159_1
          try clear hcz159_2
          try clear hcz159_3
          try clear hcz162_0
          try clear hcz162_1
          try clear hcz162_2
          try clear hcz162_3
          try clear hcz165_0
          try clear hcz165_1
          try clear hcz165_2
          try clear hcz165_3
          try clear hcz166_0
          try clear hcz166_1
          try clear hcz166_2
          try clear hcz166_3
          try clear hcz169_0
          try clear hcz169_1
          try clear hcz169_2
          try clear hcz169_3
          try clear hcz172_0
          try clear hcz172_1
          try clear hcz172_2
          try clear hcz172_3
          try clear hcz173_0
          try clear hcz173_1
          try clear hcz173_2
          try clear hcz173_3
          try clear hcz23_0
          try clear hcz23_1
          try clear hcz23_2
          try clear hcz23_3
          try clear hcz25_0
          try clear hcz25_1
          try clear hcz25_2
          try clear hcz25_3
          try clear hcz30_0
          try clear hcz30_1
          try clear hcz30_2
          try clear hcz30_3
          try clear hcz35_0
          try clear hcz35_1
          try clear hcz35_2
          try clear hcz35_3
          try clear hcz36_0
          try clear hcz36_1
          try clear hcz36_2
          try clear hcz36_3
          try clear hcz38_0
          try clear hcz38_1
          try clear hcz38_2
          try clear hcz38_3
          try clear hcz48_0
          try clear hcz48_1
          try clear hcz48_2
          try clear hcz48_3
          try clear hcz51_0
          try clear hcz51_1
          try clear hcz51_2
          try clear hcz51_3
          try clear hcz52_0
          try clear hcz52_1
          try clear hcz52_2
          try clear hcz52_3
          try clear hcz62_0
          try clear hcz62_1
          try clear hcz62_2
          try clear hcz62_3
          try clear hcz65_0
          try clear hcz65_1
          try clear hcz65_2
          try clear hcz65_3
          try clear hcz66_0
          try clear hcz66_1
          try clear hcz66_2
          try clear hcz66_3
          try clear hcz71_0
          try clear hcz71_1
          try clear hcz71_2
          try clear hcz71_3
          try clear hcz74_0
          try clear hcz74_1
          try clear hcz74_2
          try clear hcz74_3
          try clear hcz75_0
          try clear hcz75_1
          try clear hcz75_2
          try clear hcz75_3
          try clear hcz78_0
          try clear hcz78_1
          try clear hcz78_2
          try clear hcz78_3
          try clear hcz7_0
          try clear hcz7_1
          try clear hcz7_2
          try clear hcz7_3
          try clear hcz81_0
          try clear hcz81_1
          try clear hcz81_2
          try clear hcz81_3
          try clear hcz82_0
          try clear hcz82_1
          try clear hcz82_2
          try clear hcz82_3
          try clear hcz85_0
          try clear hcz85_1
          try clear hcz85_2
          try clear hcz85_3
          try clear hcz88_0
          try clear hcz88_1
          try clear hcz88_2
          try clear hcz88_3
          try clear hcz89_0
          try clear hcz89_1
          try clear hcz89_2
          try clear hcz89_3
          try clear hcz92_0
          try clear hcz92_1
          try clear hcz92_2
          try clear hcz92_3
          try clear hcz95_0
          try clear hcz95_1
          try clear hcz95_2
          try clear hcz95_3
          try clear hcz96_0
          try clear hcz96_1
          try clear hcz96_2
          try clear hcz96_3
          try clear hcz99_0
          try clear hcz99_1
          try clear hcz99_2
          try clear hcz99_3
          try clear hcz9_0
          try clear hcz9_1
          try clear hcz9_2
          try clear hcz9_3
          try clear hfz102_0
          try clear hfz102_1
          try clear hfz102_2
          try clear hfz102_3
          try clear hfz103_0
          try clear hfz103_1
          try clear hfz103_2
          try clear hfz103_3
          try clear hfz106_0
          try clear hfz106_1
          try clear hfz106_2
          try clear hfz106_3
          try clear hfz113_0
          try clear hfz113_1
          try clear hfz113_2
          try clear hfz113_3
          try clear hfz118_0
          try clear hfz118_1
          try clear hfz118_2
          try clear hfz118_3
          try clear hfz11_0
          try clear hfz11_1
          try clear hfz11_2
          try clear hfz11_3
          try clear hfz121_0
          try clear hfz121_1
          try clear hfz121_2
          try clear hfz121_3
          try clear hfz122_0
          try clear hfz122_1
          try clear hfz122_2
          try clear hfz122_3
          try clear hfz132_0
          try clear hfz132_1
          try clear hfz132_2
          try clear hfz132_3
          try clear hfz135_0
          try clear hfz135_1
          try clear hfz135_2
          try clear hfz135_3
          try clear hfz136_0
          try clear hfz136_1
          try clear hfz136_2
          try clear hfz136_3
          try clear hfz141_0
          try clear hfz141_1
          try clear hfz141_2
          try clear hfz141_3
          try clear hfz144_0
          try clear hfz144_1
          try clear hfz144_2
          try clear hfz144_3
          try clear hfz145_0
          try clear hfz145_1
          try clear hfz145_2
          try clear hfz145_3
          try clear hfz148_0
          try clear hfz148_1
          try clear hfz148_2
          try clear hfz148_3
          try clear hfz151_0
          try clear hfz151_1
          try clear hfz151_2
          try clear hfz151_3
          try clear hfz152_0
          try clear hfz152_1
          try clear hfz152_2
          try clear hfz152_3
          try clear hfz155_0
          try clear hfz155_1
          try clear hfz155_2
          try clear hfz155_3
          try clear hfz158_0
          try clear hfz158_1
          try clear hfz158_2
          try clear hfz158_3
          try clear hfz159_0
          try clear hfz159_1
          try clear hfz159_2
          try clear hfz159_3
          try clear hfz162_0
          try clear hfz162_1
          try clear hfz162_2
          try clear hfz162_3
          try clear hfz165_0
          try clear hfz165_1
          try clear hfz165_2
          try clear hfz165_3
          try clear hfz166_0
          try clear hfz166_1
          try clear hfz166_2
          try clear hfz166_3
          try clear hfz169_0
          try clear hfz169_1
          try clear hfz169_2
          try clear hfz169_3
          try clear hfz172_0
          try clear hfz172_1
          try clear hfz172_2
          try clear hfz172_3
          try clear hfz173_0
          try clear hfz173_1
          try clear hfz173_2
          try clear hfz173_3
          try clear hfz23_0
          try clear hfz23_1
          try clear hfz23_2
          try clear hfz23_3
          try clear hfz25_0
          try clear hfz25_1
          try clear hfz25_2
          try clear hfz25_3
          try clear hfz30_0
          try clear hfz30_1
          try clear hfz30_2
          try clear hfz30_3
          try clear hfz35_0
          try clear hfz35_1
          try clear hfz35_2
          try clear hfz35_3
          try clear hfz36_0
          try clear hfz36_1
          try clear hfz36_2
          try clear hfz36_3
          try clear hfz38_0
          try clear hfz38_1
          try clear hfz38_2
          try clear hfz38_3
          try clear hfz48_0
          try clear hfz48_1
          try clear hfz48_2
          try clear hfz48_3
          try clear hfz51_0
          try clear hfz51_1
          try clear hfz51_2
          try clear hfz51_3
          try clear hfz52_0
          try clear hfz52_1
          try clear hfz52_2
          try clear hfz52_3
          try clear hfz62_0
          try clear hfz62_1
          try clear hfz62_2
          try clear hfz62_3
          try clear hfz65_0
          try clear hfz65_1
          try clear hfz65_2
          try clear hfz65_3
          try clear hfz66_0
          try clear hfz66_1
          try clear hfz66_2
          try clear hfz66_3
          try clear hfz71_0
          try clear hfz71_1
          try clear hfz71_2
          try clear hfz71_3
          try clear hfz74_0
          try clear hfz74_1
          try clear hfz74_2
          try clear hfz74_3
          try clear hfz75_0
          try clear hfz75_1
          try clear hfz75_2
          try clear hfz75_3
          try clear hfz78_0
          try clear hfz78_1
          try clear hfz78_2
          try clear hfz78_3
          try clear hfz7_0
          try clear hfz7_1
          try clear hfz7_2
          try clear hfz7_3
          try clear hfz81_0
          try clear hfz81_1
          try clear hfz81_2
          try clear hfz81_3
          try clear hfz82_0
          try clear hfz82_1
          try clear hfz82_2
          try clear hfz82_3
          try clear hfz85_0
          try clear hfz85_1
          try clear hfz85_2
          try clear hfz85_3
          try clear hfz88_0
          try clear hfz88_1
          try clear hfz88_2
          try clear hfz88_3
          try clear hfz89_0
          try clear hfz89_1
          try clear hfz89_2
          try clear hfz89_3
          try clear hfz92_0
          try clear hfz92_1
          try clear hfz92_2
          try clear hfz92_3
          try clear hfz95_0
          try clear hfz95_1
          try clear hfz95_2
          try clear hfz95_3
          try clear hfz96_0
          try clear hfz96_1
          try clear hfz96_2
          try clear hfz96_3
          try clear hfz99_0
          try clear hfz99_1
          try clear hfz99_2
          try clear hfz99_3
          try clear hfz9_0
          try clear hfz9_1
          try clear hfz9_2
          try clear hfz9_3
          try clear p2
          obtain ⟨kq, x124_21, rfl, HA, HJ21, BK156, BK169, BK176, HB⟩ := hcut
          cases kq with
          | zero => exact absurd HA.out (by simp [bywashlaw7_FrameTells.j1])
          | succ kj21 =>
            have H := HA.out
            clear HA
            simp only [bywashlaw7_FrameTells.j1] at H
            by_cases c174 : x124_21 = true
            · subst c174
              have H1 : (some false) = some r := by rw [if_pos rfl] at H; exact H
              clear H
              have H := H1
              clear H1
              obtain rfl := Option.some.inj H
              go_wp2
              go_ret
              exact ⟨by first | rfl | (simp [errW_none, errW_some] <;> rfl) | (simp [*, errW_none, errW_some] <;> rfl), by repeat (first | (with_reducible first | exact HB.out | apply below_alloc | apply pw_below_drewN | apply below_drew1 | refine below_set ?_ GE156.out | refine below_set ?_ GE169.out | refine below_set ?_ GE176.out) | exact HB.out)⟩
            · replace c174 := Bool.eq_false_iff.mpr c174
              subst c174
              have H1 : (if t160 = true then (if t159.size + a1.size ≤ 9223372036854775807 then ((frame_Get.f kj21 (t159 ++ a1)).bind fun bt189 => (if bt189.2.2.2.2.2 = 0 then (if (bt189.1 == a0_0 && (bt189.2.1 == a0_1 && (bt189.2.2.1 == a0_2 && (bt189.2.2.2.1.toList == a0_3.toList)))) = true then (bywashlaw7_FrameTells.j2 kj21 (bt189.2.2.2.2.1 == (t159.size : Int))) else (bywashlaw7_FrameTells.j2 kj21 false)) else (bywashlaw7_FrameTells.j2 kj21 false))) else (none)) else (some true)) = some r := by rw [if_neg (show ¬ (false = true) by decide)] at H; exact H
              clear H
              have H := H1
              clear H1
              by_cases c175 : t160 = true
              · subst c175
                have H1 : (if t159.size + a1.size ≤ 9223372036854775807 then ((frame_Get.f kj21 (t159 ++ a1)).bind fun bt189 => (if bt189.2.2.2.2.2 = 0 then (if (bt189.1 == a0_0 && (bt189.2.1 == a0_1 && (bt189.2.2.1 == a0_2 && (bt189.2.2.2.1.toList == a0_3.toList)))) = true then (bywashlaw7_FrameTells.j2 kj21 (bt189.2.2.2.2.1 == (t159.size : Int))) else (bywashlaw7_FrameTells.j2 kj21 false)) else (bywashlaw7_FrameTells.j2 kj21 false))) else (none)) = some r := by rw [if_pos rfl] at H; exact H
                clear H
                have H := H1
                clear H1
                by_cases c176 : t159.size + a1.size ≤ 9223372036854775807
                · rw [if_pos c176] at H
                  have c176b0 := eq_true c176
                  have c176b1 : decide (t159.size + a1.size ≤ 9223372036854775807) = true := decide_eq_true c176
                  try have c176b2 : (9223372036854775807 < t159.size + a1.size) = False := eq_false (Nat.not_lt.2 c176)
                  replace H := Option.bind_eq_some_iff.mp H
                  obtain ⟨⟨t189, t190, t191, t192, t193, t194⟩, A1770, H⟩ := H
                  replace H : (if t194 = 0 then (if (t189 == a0_0 && (t190 == a0_1 && (t191 == a0_2 && (t192.toList == a0_3.toList)))) = true then (bywashlaw7_FrameTells.j2 kj21 (t193 == (t159.size : Int))) else (bywashlaw7_FrameTells.j2 kj21 false)) else (bywashlaw7_FrameTells.j2 kj21 false)) = some r := H
                  have A177 := Aside0.mk A1770
                  clear A1770
                  have HC178 := Aside0.mk H
                  clear H
                  go_upto_region 14 with (first | ((with_reducible refine gate_callee (f := 12) rfl ?_); refine goesL_ (some 131) rfl rfl Try.func12 (by kernel_rfl) rfl #[.string (t159 ++ a1)] rfl (by (try simp only [List.map_toArray, List.map_cons, List.map_nil]); first | done | rfl | (simp only [List.length_drop, List.length_take]; rfl)) ?_; (with_reducible refine (frame_Get.calls kj21 (t159 ++ a1) t189 t190 t191 t192 t193 t194 _ A177.out).mono ?_); rintro e w179 ⟨rfl, hb⟩; refine ⟨_, rfl, ?_⟩; have n0_ := Aside0.mk (blk_below (g := gb156) (o := .cells #[.int .i64 a0_0, .int .i64 a0_1, .int .i64 a0_2, .string a0_3] 23 (0, 0)) (by (with_reducible repeat (first | refine blk_drewN ?_ _ | refine blk_drew ?_ | refine blk_alloc ?_ _)); exact BK156.out) hb); have n1_ := Aside0.mk (blk_below (g := gb169) (o := .cells #[.int .i64 t163, .int .i64 t164, .int .i64 t165, .string t166] 23 (0, 0)) (by (with_reducible repeat (first | refine blk_drewN ?_ _ | refine blk_drew ?_ | refine blk_alloc ?_ _)); exact BK169.out) hb); have n2_ := Aside0.mk (blk_below (g := gb176) (o := .cells #[.int .i64 t170, .int .i64 t171, .int .i64 t172, .string t173] 23 (0, 0)) (by (with_reducible repeat (first | refine blk_drewN ?_ _ | refine blk_drew ?_ | refine blk_alloc ?_ _)); exact BK176.out) hb); have n3_ := Aside0.mk (below_step (by repeat (first | (with_reducible first | exact HB.out | apply below_alloc | apply pw_below_drewN | apply below_drew1 | refine below_set ?_ GE156.out | refine below_set ?_ GE169.out | refine below_set ?_ GE176.out) | exact HB.out)) hb); clear BK156; clear BK169; clear BK176; clear HB; have BK156 := n0_; have BK169 := n1_; have BK176 := n2_; have HB := n3_; clear n0_ n1_ n2_ n3_; (try clear hb); (try clear hb2); (try clear hk); (try clear hi)) | ((with_reducible refine gate_dst (N := 23) rfl ?_); (try (refine gate_guard (by rfl) ?_; dsimp only)); refine box_event ?hg (N := 23) ?hd (cs := #[.int .i64 0, .int .i64 0, .int .i64 0, .string (⟨#[]⟩ : ByteArray)]) (t := 23) ?hr ?_; (case hd => rfl); (case hg => rfl); (case hr => first | (go_simp; done) | (go_simp; rfl)); intro gb195 hg w180 hbox hb; have n0_ := Aside0.mk (blk_below (g := gb156) (o := .cells #[.int .i64 a0_0, .int .i64 a0_1, .int .i64 a0_2, .string a0_3] 23 (0, 0)) (by (with_reducible repeat (first | refine blk_drewN ?_ _ | refine blk_drew ?_ | refine blk_alloc ?_ _)); exact BK156.out) hb); have n1_ := Aside0.mk (blk_below (g := gb169) (o := .cells #[.int .i64 t163, .int .i64 t164, .int .i64 t165, .string t166] 23 (0, 0)) (by (with_reducible repeat (first | refine blk_drewN ?_ _ | refine blk_drew ?_ | refine blk_alloc ?_ _)); exact BK169.out) hb); have n2_ := Aside0.mk (blk_below (g := gb176) (o := .cells #[.int .i64 t170, .int .i64 t171, .int .i64 t172, .string t173] 23 (0, 0)) (by (with_reducible repeat (first | refine blk_drewN ?_ _ | refine blk_drew ?_ | refine blk_alloc ?_ _)); exact BK176.out) hb); have n3_ := Aside0.mk (below_step (by repeat (first | (with_reducible first | exact HB.out | apply below_alloc | apply pw_below_drewN | apply below_drew1 | refine below_set ?_ GE156.out | refine below_set ?_ GE169.out | refine below_set ?_ GE176.out) | exact HB.out)) hb); have n4_ := Aside0.mk (hbox); have n5_ := Aside0.mk ((by rw [hg]; exact (below_size (by repeat (first | (with_reducible first | exact HB.out | apply below_alloc | apply pw_below_drewN | apply below_drew1 | refine below_set ?_ GE156.out | refine below_set ?_ GE169.out | refine below_set ?_ GE176.out) | exact HB.out))) : w.heap.size ≤ gb195)); have n6_ := Aside0.mk ((by rw [hg]; exact (below_size (by repeat (first | (with_reducible first | exact HB.out | apply below_alloc | apply pw_below_drewN | apply below_drew1 | refine below_set ?_ GE156.out | refine below_set ?_ GE169.out | refine below_set ?_ GE176.out) | exact HB.out))) : w.heap.size ≤ gb195)); have n7_ := Aside0.mk ((by rw [hg]; exact Nat.ne_of_lt (blk_lt (g := gb156) (o := .cells #[.int .i64 a0_0, .int .i64 a0_1, .int .i64 a0_2, .string a0_3] 23 (0, 0)) (by (with_reducible repeat (first | refine blk_drewN ?_ _ | refine blk_drew ?_ | refine blk_alloc ?_ _)); exact BK156.out)) : gb156 ≠ gb195)); have n8_ := Aside0.mk ((by rw [hg]; exact Nat.ne_of_gt (blk_lt (g := gb156) (o := .cells #[.int .i64 a0_0, .int .i64 a0_1, .int .i64 a0_2, .string a0_3] 23 (0, 0)) (by (with_reducible repeat (first | refine blk_drewN ?_ _ | refine blk_drew ?_ | refine blk_alloc ?_ _)); exact BK156.out)) : gb195 ≠ gb156)); have n9_ := Aside0.mk ((by rw [hg]; exact Nat.ne_of_lt (blk_lt (g := gb169) (o := .cells #[.int .i64 t163, .int .i64 t164, .int .i64 t165, .string t166] 23 (0, 0)) (by (with_reducible repeat (first | refine blk_drewN ?_ _ | refine blk_drew ?_ | refine blk_alloc ?_ _)); exact BK169.out)) : gb169 ≠ gb195)); have n10_ := Aside0.mk ((by rw [hg]; exact Nat.ne_of_gt (blk_lt (g := gb169) (o := .cells #[.int .i64 t163, .int .i64 t164, .int .i64 t165, .string t166] 23 (0, 0)) (by (with_reducible repeat (first | refine blk_drewN ?_ _ | refine blk_drew ?_ | refine blk_alloc ?_ _)); exact BK169.out)) : gb195 ≠ gb169)); have n11_ := Aside0.mk ((by rw [hg]; exact Nat.ne_of_lt (blk_lt (g := gb176) (o := .cells #[.int .i64 t170, .int .i64 t171, .int .i64 t172, .string t173] 23 (0, 0)) (by (with_reducible repeat (first | refine blk_drewN ?_ _ | refine blk_drew ?_ | refine blk_alloc ?_ _)); exact BK176.out)) : gb176 ≠ gb195)); have n12_ := Aside0.mk ((by rw [hg]; exact Nat.ne_of_gt (blk_lt (g := gb176) (o := .cells #[.int .i64 t170, .int .i64 t171, .int .i64 t172, .string t173] 23 (0, 0)) (by (with_reducible repeat (first | refine blk_drewN ?_ _ | refine blk_drew ?_ | refine blk_alloc ?_ _)); exact BK176.out)) : gb195 ≠ gb176)); clear BK156; clear BK169; clear BK176; clear HB; have BK156 := n0_; have BK169 := n1_; have BK176 := n2_; have HB := n3_; have BK195 := n4_; have GW195 := n5_; have GE195 := n6_; have NB156_195 := n7_; have NB195_156 := n8_; have NB169_195 := n9_; have NB195_169 := n10_; have NB176_195 := n11_; have NB195_176 := n12_; clear n0_ n1_ n2_ n3_ n4_ n5_ n6_ n7_ n8_ n9_ n10_ n11_ n12_; clear hb hbox hg; have hnb181 := NB195_156.out; have hnc181 := NB156_195.out; have hnb182 := NB195_169.out; have hnc182 := NB169_195.out; have hnb183 := NB195_176.out; have hnc183 := NB176_195.out; have hcz184_0 : w180.cell? ⟨gb195, 0, none⟩ = some (.int .i64 0) := (blk_cell BK195.out 0).trans rfl; have hcz184_1 : w180.cell? ⟨gb195, 1, none⟩ = some (.int .i64 0) := (blk_cell BK195.out 1).trans rfl; have hcz184_2 : w180.cell? ⟨gb195, 2, none⟩ = some (.int .i64 0) := (blk_cell BK195.out 2).trans rfl; have hcz184_3 : w180.cell? ⟨gb195, 3, none⟩ = some (.string (⟨#[]⟩ : ByteArray)) := (blk_cell BK195.out 3).trans rfl; have hfz184_0 := blk_frozen BK195.out 0; have hfz184_1 := blk_frozen BK195.out 1; have hfz184_2 := blk_frozen BK195.out 2; have hfz184_3 := blk_frozen BK195.out 3))
                  (try simp only [Act.put, List.setIfInBounds_toArray, List.set_cons_zero, List.set_cons_succ])
                  go_cut [6] (fun v6 wc => ∃ (kq : Nat) (x6_177 : Bool), v6 = .bool x6_177 ∧ Aside0 (bywashlaw7_FrameTells.j2 kq x6_177 = some r) ∧ Aside0 (kq ≤ kj21) ∧ Aside0 (wc.heap[gb156]? = some (.cells #[.int .i64 a0_0, .int .i64 a0_1, .int .i64 a0_2, .string a0_3] 23 (0, 0))) ∧ Aside0 (wc.heap[gb169]? = some (.cells #[.int .i64 t163, .int .i64 t164, .int .i64 t165, .string t166] 23 (0, 0))) ∧ Aside0 (wc.heap[gb176]? = some (.cells #[.int .i64 t170, .int .i64 t171, .int .i64 t172, .string t173] 23 (0, 0))) ∧ Aside0 (wc.heap[gb195]? = some (.cells #[.int .i64 t189, .int .i64 t190, .int .i64 t191, .string t192] 23 (0, 0))) ∧ Aside0 (Below w.heap.size w wc))
                  case first =>
                    have H := HC178.out
                    clear HC178
                    by_cases c185 : t194 = 0
                    · rw [if_pos c185] at H
                      have c185b0 : (t194 == 0) = true := beq_iff_eq.mpr c185
                      have c185b1 : (t194 != 0) = false := bne_eq_false_iff_eq.mpr c185
                      clear c185
                      (first | rw [c185b0] | (simp only [i64_w, i32_w]; rw [c185b0]) | skip)
                      by_cases c186 : (t189 == a0_0 && (t190 == a0_1 && (t191 == a0_2 && (t192.toList == a0_3.toList)))) = true
                      · rw [if_pos c186] at H
                        have c186b0 : (t189 == a0_0 && (t190 == a0_1 && (t191 == a0_2 && (t192.toList == a0_3.toList)))) = true := c186
                        (try (have c186b1 : decide (t189 = a0_0 && (t190 == a0_1 && (t191 == a0_2 && (t192.toList == a0_3.toList)))) = true := by simpa using c186))
                        (try (have c186b2 : (t189 == a0_0 && (t190 == a0_1 && (t191 == a0_2 && (t192.toList == a0_3.toList)))) = true := by simpa using c186))
                        clear c186
                        have H' := Aside0.mk H
                        clear H
                        have hnb187 := NB195_156.out
                        have hnc187 := NB156_195.out
                        have hnb188 := NB195_169.out
                        have hnc188 := NB169_195.out
                        have hnb189 := NB195_176.out
                        have hnc189 := NB176_195.out
                        have hcz190_0 : w180.cell? ⟨gb195, 0, none⟩ = some (.int .i64 0) := (blk_cell BK195.out 0).trans rfl
                        have hcz190_1 : w180.cell? ⟨gb195, 1, none⟩ = some (.int .i64 0) := (blk_cell BK195.out 1).trans rfl
                        have hcz190_2 : w180.cell? ⟨gb195, 2, none⟩ = some (.int .i64 0) := (blk_cell BK195.out 2).trans rfl
                        have hcz190_3 : w180.cell? ⟨gb195, 3, none⟩ = some (.string (⟨#[]⟩ : ByteArray)) := (blk_cell BK195.out 3).trans rfl
                        have hfz190_0 := blk_frozen BK195.out 0
                        have hfz190_1 := blk_frozen BK195.out 1
                        have hfz190_2 := blk_frozen BK195.out 2
                        have hfz190_3 := blk_frozen BK195.out 3
                        have hnb191 := NB156_169.out
                        have hnc191 := NB169_156.out
                        have hnb192 := NB156_176.out
                        have hnc192 := NB176_156.out
                        have hcz193_0 : w180.cell? ⟨gb156, 0, none⟩ = some (.int .i64 a0_0) := (blk_cell BK156.out 0).trans rfl
                        have hcz193_1 : w180.cell? ⟨gb156, 1, none⟩ = some (.int .i64 a0_1) := (blk_cell BK156.out 1).trans rfl
                        have hcz193_2 : w180.cell? ⟨gb156, 2, none⟩ = some (.int .i64 a0_2) := (blk_cell BK156.out 2).trans rfl
                        have hcz193_3 : w180.cell? ⟨gb156, 3, none⟩ = some (.string a0_3) := (blk_cell BK156.out 3).trans rfl
                        have hfz193_0 := blk_frozen BK156.out 0
                        have hfz193_1 := blk_frozen BK156.out 1
                        have hfz193_2 := blk_frozen BK156.out 2
                        have hfz193_3 := blk_frozen BK156.out 3
                        go_wp2
                        go_meet
                        case rel => exact ⟨_, ((t193 == (t159.size : Int))), (by first | rfl | (simp; done) | (simp [*]; done)), H', ⟨by have := HJ3.out; have := HJ21.out; first | omega | exact Nat.le_refl _⟩, ⟨by (with_reducible repeat (first | refine blk_drewN ?_ _ | refine blk_drew ?_ | refine blk_alloc ?_ _)); refine blk_far ?_ NB156_195.out _; (with_reducible repeat (first | refine blk_drewN ?_ _ | refine blk_drew ?_ | refine blk_alloc ?_ _)); refine blk_far ?_ NB156_195.out _; (with_reducible repeat (first | refine blk_drewN ?_ _ | refine blk_drew ?_ | refine blk_alloc ?_ _)); refine blk_far ?_ NB156_195.out _; (with_reducible repeat (first | refine blk_drewN ?_ _ | refine blk_drew ?_ | refine blk_alloc ?_ _)); refine blk_far ?_ NB156_195.out _; (with_reducible repeat (first | refine blk_drewN ?_ _ | refine blk_drew ?_ | refine blk_alloc ?_ _)); exact BK156.out⟩, ⟨by (with_reducible repeat (first | refine blk_drewN ?_ _ | refine blk_drew ?_ | refine blk_alloc ?_ _)); refine blk_far ?_ NB169_195.out _; (with_reducible repeat (first | refine blk_drewN ?_ _ | refine blk_drew ?_ | refine blk_alloc ?_ _)); refine blk_far ?_ NB169_195.out _; (with_reducible repeat (first | refine blk_drewN ?_ _ | refine blk_drew ?_ | refine blk_alloc ?_ _)); refine blk_far ?_ NB169_195.out _; (with_reducible repeat (first | refine blk_drewN ?_ _ | refine blk_drew ?_ | refine blk_alloc ?_ _)); refine blk_far ?_ NB169_195.out _; (with_reducible repeat (first | refine blk_drewN ?_ _ | refine blk_drew ?_ | refine blk_alloc ?_ _)); exact BK169.out⟩, ⟨by (with_reducible repeat (first | refine blk_drewN ?_ _ | refine blk_drew ?_ | refine blk_alloc ?_ _)); refine blk_far ?_ NB176_195.out _; (with_reducible repeat (first | refine blk_drewN ?_ _ | refine blk_drew ?_ | refine blk_alloc ?_ _)); refine blk_far ?_ NB176_195.out _; (with_reducible repeat (first | refine blk_drewN ?_ _ | refine blk_drew ?_ | refine blk_alloc ?_ _)); refine blk_far ?_ NB176_195.out _; (with_reducible repeat (first | refine blk_drewN ?_ _ | refine blk_drew ?_ | refine blk_alloc ?_ _)); refine blk_far ?_ NB176_195.out _; (with_reducible repeat (first | refine blk_drewN ?_ _ | refine blk_drew ?_ | refine blk_alloc ?_ _)); exact BK176.out⟩, ⟨by (with_reducible repeat (first | refine blk_drewN ?_ _ | refine blk_drew ?_ | refine blk_alloc ?_ _)); refine blk_put (cs := #[.int .i64 t189, .int .i64 t190, .int .i64 t191, .string (⟨#[]⟩ : ByteArray)]) ?_ 3 _ rfl; (with_reducible repeat (first | refine blk_drewN ?_ _ | refine blk_drew ?_ | refine blk_alloc ?_ _)); refine blk_put (cs := #[.int .i64 t189, .int .i64 t190, .int .i64 0, .string (⟨#[]⟩ : ByteArray)]) ?_ 2 _ rfl; (with_reducible repeat (first | refine blk_drewN ?_ _ | refine blk_drew ?_ | refine blk_alloc ?_ _)); refine blk_put (cs := #[.int .i64 t189, .int .i64 0, .int .i64 0, .string (⟨#[]⟩ : ByteArray)]) ?_ 1 _ rfl; (with_reducible repeat (first | refine blk_drewN ?_ _ | refine blk_drew ?_ | refine blk_alloc ?_ _)); refine blk_put (cs := #[.int .i64 0, .int .i64 0, .int .i64 0, .string (⟨#[]⟩ : ByteArray)]) ?_ 0 _ rfl; (with_reducible repeat (first | refine blk_drewN ?_ _ | refine blk_drew ?_ | refine blk_alloc ?_ _)); exact BK195.out⟩, ⟨by repeat (first | (with_reducible first | exact HB.out | apply below_alloc | apply pw_below_drewN | apply below_drew1 | refine below_set ?_ GE156.out | refine below_set ?_ GE169.out | refine below_set ?_ GE176.out | refine below_set ?_ GE195.out) | exact HB.out)⟩⟩
                      · rw [if_neg c186] at H
                        have c186b0 : (t189 == a0_0 && (t190 == a0_1 && (t191 == a0_2 && (t192.toList == a0_3.toList)))) = false := by simpa using c186
                        (try (have c186b1 : decide (t189 = a0_0 && (t190 == a0_1 && (t191 == a0_2 && (t192.toList == a0_3.toList)))) = false := by simpa using c186))
                        (try (have c186b2 : (t189 == a0_0 && (t190 == a0_1 && (t191 == a0_2 && (t192.toList == a0_3.toList)))) = false := by simpa using c186))
                        (try (have c186b3 : ¬ (t189 = a0_0 && (t190 == a0_1 && (t191 == a0_2 && (t192.toList == a0_3.toList)))) := by simpa using c186))
                        clear c186
                        have H' := Aside0.mk H
                        clear H
                        have hnb194 := NB195_156.out
                        have hnc194 := NB156_195.out
                        have hnb195 := NB195_169.out
                        have hnc195 := NB169_195.out
                        have hnb196 := NB195_176.out
                        have hnc196 := NB176_195.out
                        have hcz197_0 : w180.cell? ⟨gb195, 0, none⟩ = some (.int .i64 0) := (blk_cell BK195.out 0).trans rfl
                        have hcz197_1 : w180.cell? ⟨gb195, 1, none⟩ = some (.int .i64 0) := (blk_cell BK195.out 1).trans rfl
                        have hcz197_2 : w180.cell? ⟨gb195, 2, none⟩ = some (.int .i64 0) := (blk_cell BK195.out 2).trans rfl
                        have hcz197_3 : w180.cell? ⟨gb195, 3, none⟩ = some (.string (⟨#[]⟩ : ByteArray)) := (blk_cell BK195.out 3).trans rfl
                        have hfz197_0 := blk_frozen BK195.out 0
                        have hfz197_1 := blk_frozen BK195.out 1
                        have hfz197_2 := blk_frozen BK195.out 2
                        have hfz197_3 := blk_frozen BK195.out 3
                        have hnb198 := NB156_169.out
                        have hnc198 := NB169_156.out
                        have hnb199 := NB156_176.out
                        have hnc199 := NB176_156.out
                        have hcz200_0 : w180.cell? ⟨gb156, 0, none⟩ = some (.int .i64 a0_0) := (blk_cell BK156.out 0).trans rfl
                        have hcz200_1 : w180.cell? ⟨gb156, 1, none⟩ = some (.int .i64 a0_1) := (blk_cell BK156.out 1).trans rfl
                        have hcz200_2 : w180.cell? ⟨gb156, 2, none⟩ = some (.int .i64 a0_2) := (blk_cell BK156.out 2).trans rfl
                        have hcz200_3 : w180.cell? ⟨gb156, 3, none⟩ = some (.string a0_3) := (blk_cell BK156.out 3).trans rfl
                        have hfz200_0 := blk_frozen BK156.out 0
                        have hfz200_1 := blk_frozen BK156.out 1
                        have hfz200_2 := blk_frozen BK156.out 2
                        have hfz200_3 := blk_frozen BK156.out 3
                        go_wp2
                        go_meet
                        case rel => exact ⟨_, (false), (by first | rfl | (simp; done) | (simp [*]; done)), H', ⟨by have := HJ3.out; have := HJ21.out; first | omega | exact Nat.le_refl _⟩, ⟨by (with_reducible repeat (first | refine blk_drewN ?_ _ | refine blk_drew ?_ | refine blk_alloc ?_ _)); refine blk_far ?_ NB156_195.out _; (with_reducible repeat (first | refine blk_drewN ?_ _ | refine blk_drew ?_ | refine blk_alloc ?_ _)); refine blk_far ?_ NB156_195.out _; (with_reducible repeat (first | refine blk_drewN ?_ _ | refine blk_drew ?_ | refine blk_alloc ?_ _)); refine blk_far ?_ NB156_195.out _; (with_reducible repeat (first | refine blk_drewN ?_ _ | refine blk_drew ?_ | refine blk_alloc ?_ _)); refine blk_far ?_ NB156_195.out _; (with_reducible repeat (first | refine blk_drewN ?_ _ | refine blk_drew ?_ | refine blk_alloc ?_ _)); exact BK156.out⟩, ⟨by (with_reducible repeat (first | refine blk_drewN ?_ _ | refine blk_drew ?_ | refine blk_alloc ?_ _)); refine blk_far ?_ NB169_195.out _; (with_reducible repeat (first | refine blk_drewN ?_ _ | refine blk_drew ?_ | refine blk_alloc ?_ _)); refine blk_far ?_ NB169_195.out _; (with_reducible repeat (first | refine blk_drewN ?_ _ | refine blk_drew ?_ | refine blk_alloc ?_ _)); refine blk_far ?_ NB169_195.out _; (with_reducible repeat (first | refine blk_drewN ?_ _ | refine blk_drew ?_ | refine blk_alloc ?_ _)); refine blk_far ?_ NB169_195.out _; (with_reducible repeat (first | refine blk_drewN ?_ _ | refine blk_drew ?_ | refine blk_alloc ?_ _)); exact BK169.out⟩, ⟨by (with_reducible repeat (first | refine blk_drewN ?_ _ | refine blk_drew ?_ | refine blk_alloc ?_ _)); refine blk_far ?_ NB176_195.out _; (with_reducible repeat (first | refine blk_drewN ?_ _ | refine blk_drew ?_ | refine blk_alloc ?_ _)); refine blk_far ?_ NB176_195.out _; (with_reducible repeat (first | refine blk_drewN ?_ _ | refine blk_drew ?_ | refine blk_alloc ?_ _)); refine blk_far ?_ NB176_195.out _; (with_reducible repeat (first | refine blk_drewN ?_ _ | refine blk_drew ?_ | refine blk_alloc ?_ _)); refine blk_far ?_ NB176_195.out _; (with_reducible repeat (first | refine blk_drewN ?_ _ | refine blk_drew ?_ | refine blk_alloc ?_ _)); exact BK176.out⟩, ⟨by (with_reducible repeat (first | refine blk_drewN ?_ _ | refine blk_drew ?_ | refine blk_alloc ?_ _)); refine blk_put (cs := #[.int .i64 t189, .int .i64 t190, .int .i64 t191, .string (⟨#[]⟩ : ByteArray)]) ?_ 3 _ rfl; (with_reducible repeat (first | refine blk_drewN ?_ _ | refine blk_drew ?_ | refine blk_alloc ?_ _)); refine blk_put (cs := #[.int .i64 t189, .int .i64 t190, .int .i64 0, .string (⟨#[]⟩ : ByteArray)]) ?_ 2 _ rfl; (with_reducible repeat (first | refine blk_drewN ?_ _ | refine blk_drew ?_ | refine blk_alloc ?_ _)); refine blk_put (cs := #[.int .i64 t189, .int .i64 0, .int .i64 0, .string (⟨#[]⟩ : ByteArray)]) ?_ 1 _ rfl; (with_reducible repeat (first | refine blk_drewN ?_ _ | refine blk_drew ?_ | refine blk_alloc ?_ _)); refine blk_put (cs := #[.int .i64 0, .int .i64 0, .int .i64 0, .string (⟨#[]⟩ : ByteArray)]) ?_ 0 _ rfl; (with_reducible repeat (first | refine blk_drewN ?_ _ | refine blk_drew ?_ | refine blk_alloc ?_ _)); exact BK195.out⟩, ⟨by repeat (first | (with_reducible first | exact HB.out | apply below_alloc | apply pw_below_drewN | apply below_drew1 | refine below_set ?_ GE156.out | refine below_set ?_ GE169.out | refine below_set ?_ GE176.out | refine below_set ?_ GE195.out) | exact HB.out)⟩⟩
                    · rw [if_neg c185] at H
                      have c185b0 : (t194 == 0) = false := beq_eq_false_iff_ne.mpr c185
                      have c185b1 : (t194 != 0) = true := bne_iff_ne.mpr c185
                      (first | rw [c185b0] | (simp only [i64_w, i32_w]; rw [c185b0]) | skip)
                      have H' := Aside0.mk H
                      clear H
                      go_wp2
                      go_meet
                      case rel => exact ⟨_, (false), (by first | rfl | (simp; done) | (simp [*]; done)), H', ⟨by have := HJ3.out; have := HJ21.out; first | omega | exact Nat.le_refl _⟩, ⟨by (with_reducible repeat (first | refine blk_drewN ?_ _ | refine blk_drew ?_ | refine blk_alloc ?_ _)); refine blk_far ?_ NB156_195.out _; (with_reducible repeat (first | refine blk_drewN ?_ _ | refine blk_drew ?_ | refine blk_alloc ?_ _)); refine blk_far ?_ NB156_195.out _; (with_reducible repeat (first | refine blk_drewN ?_ _ | refine blk_drew ?_ | refine blk_alloc ?_ _)); refine blk_far ?_ NB156_195.out _; (with_reducible repeat (first | refine blk_drewN ?_ _ | refine blk_drew ?_ | refine blk_alloc ?_ _)); refine blk_far ?_ NB156_195.out _; (with_reducible repeat (first | refine blk_drewN ?_ _ | refine blk_drew ?_ | refine blk_alloc ?_ _)); exact BK156.out⟩, ⟨by (with_reducible repeat (first | refine blk_drewN ?_ _ | refine blk_drew ?_ | refine blk_alloc ?_ _)); refine blk_far ?_ NB169_195.out _; (with_reducible repeat (first | refine blk_drewN ?_ _ | refine blk_drew ?_ | refine blk_alloc ?_ _)); refine blk_far ?_ NB169_195.out _; (with_reducible repeat (first | refine blk_drewN ?_ _ | refine blk_drew ?_ | refine blk_alloc ?_ _)); refine blk_far ?_ NB169_195.out _; (with_reducible repeat (first | refine blk_drewN ?_ _ | refine blk_drew ?_ | refine blk_alloc ?_ _)); refine blk_far ?_ NB169_195.out _; (with_reducible repeat (first | refine blk_drewN ?_ _ | refine blk_drew ?_ | refine blk_alloc ?_ _)); exact BK169.out⟩, ⟨by (with_reducible repeat (first | refine blk_drewN ?_ _ | refine blk_drew ?_ | refine blk_alloc ?_ _)); refine blk_far ?_ NB176_195.out _; (with_reducible repeat (first | refine blk_drewN ?_ _ | refine blk_drew ?_ | refine blk_alloc ?_ _)); refine blk_far ?_ NB176_195.out _; (with_reducible repeat (first | refine blk_drewN ?_ _ | refine blk_drew ?_ | refine blk_alloc ?_ _)); refine blk_far ?_ NB176_195.out _; (with_reducible repeat (first | refine blk_drewN ?_ _ | refine blk_drew ?_ | refine blk_alloc ?_ _)); refine blk_far ?_ NB176_195.out _; (with_reducible repeat (first | refine blk_drewN ?_ _ | refine blk_drew ?_ | refine blk_alloc ?_ _)); exact BK176.out⟩, ⟨by (with_reducible repeat (first | refine blk_drewN ?_ _ | refine blk_drew ?_ | refine blk_alloc ?_ _)); refine blk_put (cs := #[.int .i64 t189, .int .i64 t190, .int .i64 t191, .string (⟨#[]⟩ : ByteArray)]) ?_ 3 _ rfl; (with_reducible repeat (first | refine blk_drewN ?_ _ | refine blk_drew ?_ | refine blk_alloc ?_ _)); refine blk_put (cs := #[.int .i64 t189, .int .i64 t190, .int .i64 0, .string (⟨#[]⟩ : ByteArray)]) ?_ 2 _ rfl; (with_reducible repeat (first | refine blk_drewN ?_ _ | refine blk_drew ?_ | refine blk_alloc ?_ _)); refine blk_put (cs := #[.int .i64 t189, .int .i64 0, .int .i64 0, .string (⟨#[]⟩ : ByteArray)]) ?_ 1 _ rfl; (with_reducible repeat (first | refine blk_drewN ?_ _ | refine blk_drew ?_ | refine blk_alloc ?_ _)); refine blk_put (cs := #[.int .i64 0, .int .i64 0, .int .i64 0, .string (⟨#[]⟩ : ByteArray)]) ?_ 0 _ rfl; (with_reducible repeat (first | refine blk_drewN ?_ _ | refine blk_drew ?_ | refine blk_alloc ?_ _)); exact BK195.out⟩, ⟨by repeat (first | (with_reducible first | exact HB.out | apply below_alloc | apply pw_below_drewN | apply below_drew1 | refine below_set ?_ GE156.out | refine below_set ?_ GE169.out | refine below_set ?_ GE176.out | refine below_set ?_ GE195.out) | exact HB.out)⟩⟩
                  case rest =>
                    clear HC178
                    try clear c1
                    try clear p2
                    try clear c11
                    try clear c12
                    try clear c13
                    try clear c14
                    try clear c15
                    try clear c16
                    try clear c17
                    try clear c18
                    try clear c19
                    try clear c115
                    try clear c115b0
                    try clear c116
                    try clear c117
                    try clear c120
                    try clear c123
                    try clear c123b0
                    try clear c123b1
                    try clear c124
                    try clear c124b0
                    try clear c124b1
                    try clear c125
                    try clear c125b0
                    try clear c125b1
                    try clear c126
                    try clear c126b0
                    try clear c126b1
                    try clear c127
                    try clear c127b0
                    try clear c127b1
                    try clear c130
                    try clear c131
                    try clear c134
                    try clear c139
                    try clear c140
                    try clear c143
                    try clear c146
                    try clear c147
                    try clear c150
                    try clear c153
                    try clear c154
                    try clear c157
                    try clear c160
                    try clear c161
                    try clear c164
                    try clear c167
                    try clear c168
                    try clear c171
                    try clear c174
                    try clear c175
                    try clear c176
                    try clear c176b0
                    try clear c176b1
                    try clear c176b2
                    try clear c181
                    try clear c182
                    try clear c183
                    try clear c185
                    try clear c185b0
                    try clear c185b1
                    try clear c186
                    try clear c186b0
                    try clear c186b1
                    try clear c186b2
                    try clear c187
                    try clear c188
                    try clear c189
                    try clear c191
                    try clear c192
                    try clear c194
                    try clear c195
                    try clear c196
                    try clear c198
                    try clear c199
                    try clear hcz102_0
                    try clear hcz102_1
                    try clear hcz102_2
                    try clear hcz102_3
                    try clear hcz103_0
                    try clear hcz103_1
                    try clear hcz103_2
                    try clear hcz103_3
                    try clear hcz106_0
                    try clear hcz106_1
                    try clear hcz106_2
                    try clear hcz106_3
                    try clear hcz113_0
                    try clear hcz113_1
                    try clear hcz113_2
                    try clear hcz113_3
                    try clear hcz118_0
                    try clear hcz118_1
                    try clear hcz118_2
                    try clear hcz118_3
                    try clear hcz11_0
                    try clear hcz11_1
                    try clear hcz11_2
                    try clear hcz11_3
                    try clear hcz121_0
                    try clear hcz121_1
                    try clear hcz121_2
                    try clear hcz121_3
                    try clear hcz122_0
                    try clear hcz122_1
                    try clear hcz122_2
                    try clear hcz122_3
                    try clear hcz132_0
                    try clear hcz132_1
                    try clear hcz132_2
                    try clear hcz132_3
                    try clear hcz135_0
                    try clear hcz135_1
                    try clear hcz135_2
                    try clear hcz135_3
                    try clear hcz136_0
                    try clear hcz136_1
                    try clear hcz136_2
                    try clear hcz136_3
                    try clear hcz141_0
                    try clear hcz141_1
                    try clear hcz141_2
                    try clear hcz141_3
                    try clear hcz144_0
                    try clear hcz144_1
                    try clear hcz144_2
                    try clear hcz144_3
                    try clear hcz145_0
                    try clear hcz145_1
                    try clear hcz145_2
                    try clear hcz145_3
                    try clear hcz148_0
                    try clear hcz148_1
                    try clear hcz148_2
                    try clear hcz148_3
                    try clear hcz151_0
                    try clear hcz151_1
                    try clear hcz151_2
                    try clear hcz151_3
                    try clear hcz152_0
                    try clear hcz152_1
                    try clear hcz152_2
                    try clear hcz152_3
                    try clear hcz155_0
                    try clear hcz155_1
                    try clear hcz155_2
                    try clear hcz155_3
                    try clear hcz158_0
                    try clear hcz158_1
                    try clear hcz158_2
                    try clear hcz158_3
                    try clear hcz159_0
                    try clear hcz159_1
                    try clear hcz159_2
                    try clear hcz159_3
                    try clear hcz162_0
                    try clear hcz162_1
                    try clear hcz162_2
                    try clear hcz162_3
                    try clear hcz165_0
                    try clear hcz165_1
                    try clear hcz165_2
                    try clear hcz165_3
                    try clear hcz166_0
                    try clear hcz166_1
                    try clear hcz166_2
                    try clear hcz166_3
                    try clear hcz169_0
                    try clear hcz169_1
                    try clear hcz169_2
                    try clear hcz169_3
                    try clear hcz172_0
                    try clear hcz172_1
                    try clear hcz172_2
                    try clear hcz172_3
                    try clear hcz173_0
                    try clear hcz173_1
                    try clear hcz173_2
                    try clear hcz173_3
                    try clear hcz184_0
                    try clear hcz184_1
                    try clear hcz184_2
                    try clear hcz184_3
                    try clear hcz190_0
                    try clear hcz190_1
                    try clear hcz190_2
                    try clear hcz190_3
                    try clear hcz193_0
                    try clear hcz193_1
                    try clear hcz193_2
                    try clear hcz193_3
                    try clear hcz197_0
                    try clear hcz197_1
                    try clear hcz197_2
                    try clear hcz197_3
                    try clear hcz200_0
                    try clear hcz200_1
                    try clear hcz200_2
                    try clear hcz200_3
                    try clear hcz23_0
                    try clear hcz23_1
                    try clear hcz23_2
                    try clear hcz23_3
                    try clear hcz25_0
                    try clear hcz25_1
                    try clear hcz25_2
                    try clear hcz25_3
                    try clear hcz30_0
                    try clear hcz30_1
                    try clear hcz30_2
                    try clear hcz30_3
                    try clear hcz35_0
                    try clear hcz35_1
                    try clear hcz35_2
                    try clear hcz35_3
                    try clear hcz36_0
                    try clear hcz36_1
                    try clear hcz36_2
                    try clear hcz36_3
                    try clear hcz38_0
                    try clear hcz38_1
                    try clear hcz38_2
                    try clear hcz38_3
                    try clear hcz48_0
                    try clear hcz48_1
                    try clear hcz48_2
                    try clear hcz48_3
                    try clear hcz51_0
                    try clear hcz51_1
                    try clear hcz51_2
                    try clear hcz51_3
                    try clear hcz52_0
                    try clear hcz52_1
                    try clear hcz52_2
                    try clear hcz52_3
                    try clear hcz62_0
                    try clear hcz62_1
                    try clear hcz62_2
                    try clear hcz62_3
                    try clear hcz65_0
                    try clear hcz65_1
                    try clear hcz65_2
                    try clear hcz65_3
                    try clear hcz66_0
                    try clear hcz66_1
                    try clear hcz66_2
                    try clear hcz66_3
                    try clear hcz71_0
                    try clear hcz71_1
                    try clear hcz71_2
                    try clear hcz71_3
                    try clear hcz74_0
                    try clear hcz74_1
                    try clear hcz74_2
                    try clear hcz74_3
                    try clear hcz75_0
                    try clear hcz75_1
                    try clear hcz75_2
                    try clear hcz75_3
                    try clear hcz78_0
                    try clear hcz78_1
                    try clear hcz78_2
                    try clear hcz78_3
                    try clear hcz7_0
                    try clear hcz7_1
                    try clear hcz7_2
                    try clear hcz7_3
                    try clear hcz81_0
                    try clear hcz81_1
                    try clear hcz81_2
                    try clear hcz81_3
                    try clear hcz82_0
                    try clear hcz82_1
                    try clear hcz82_2
                    try clear hcz82_3
                    try clear hcz85_0
                    try clear hcz85_1
                    try clear hcz85_2
                    try clear hcz85_3
                    try clear hcz88_0
                    try clear hcz88_1
                    try clear hcz88_2
                    try clear hcz88_3
                    try clear hcz89_0
                    try clear hcz89_1
                    try clear hcz89_2
                    try clear hcz89_3
                    try clear hcz92_0
                    try clear hcz92_1
                    try clear hcz92_2
                    try clear hcz92_3
                    try clear hcz95_0
                    try clear hcz95_1
                    try clear hcz95_2
                    try clear hcz95_3
                    try clear hcz96_0
                    try clear hcz96_1
                    try clear hcz96_2
                    try clear hcz96_3
                    try clear hcz99_0
                    try clear hcz99_1
                    try clear hcz99_2
                    try clear hcz99_3
                    try clear hcz9_0
                    try clear hcz9_1
                    try clear hcz9_2
                    try clear hcz9_3
                    try clear hfz102_0
                    try clear hfz102_1
                    try clear hfz102_2
                    try clear hfz102_3
                    try clear hfz103_0
                    try clear hfz103_1
                    try clear hfz103_2
                    try clear hfz103_3
                    try clear hfz106_0
                    try clear hfz106_1
                    try clear hfz106_2
                    try clear hfz106_3
                    try clear hfz113_0
                    try clear hfz113_1
                    try clear hfz113_2
                    try clear hfz113_3
                    try clear hfz118_0
                    try clear hfz118_1
                    try clear hfz118_2
                    try clear hfz118_3
                    try clear hfz11_0
                    try clear hfz11_1
                    try clear hfz11_2
                    try clear hfz11_3
                    try clear hfz121_0
                    try clear hfz121_1
                    try clear hfz121_2
                    try clear hfz121_3
                    try clear hfz122_0
                    try clear hfz122_1
                    try clear hfz122_2
                    try clear hfz122_3
                    try clear hfz132_0
                    try clear hfz132_1
                    try clear hfz132_2
                    try clear hfz132_3
                    try clear hfz135_0
                    try clear hfz135_1
                    try clear hfz135_2
                    try clear hfz135_3
                    try clear hfz136_0
                    try clear hfz136_1
                    try clear hfz136_2
                    try clear hfz136_3
                    try clear hfz141_0
                    try clear hfz141_1
                    try clear hfz141_2
                    try clear hfz141_3
                    try clear hfz144_0
                    try clear hfz144_1
                    try clear hfz144_2
                    try clear hfz144_3
                    try clear hfz145_0
                    try clear hfz145_1
                    try clear hfz145_2
                    try clear hfz145_3
                    try clear hfz148_0
                    try clear hfz148_1
                    try clear hfz148_2
                    try clear hfz148_3
                    try clear hfz151_0
                    try clear hfz151_1
                    try clear hfz151_2
                    try clear hfz151_3
                    try clear hfz152_0
                    try clear hfz152_1
                    try clear hfz152_2
                    try clear hfz152_3
                    try clear hfz155_0
                    try clear hfz155_1
                    try clear hfz155_2
                    try clear hfz155_3
                    try clear hfz158_0
                    try clear hfz158_1
                    try clear hfz158_2
                    try clear hfz158_3
                    try clear hfz159_0
                    try clear hfz159_1
                    try clear hfz159_2
                    try clear hfz159_3
                    try clear hfz162_0
                    try clear hfz162_1
                    try clear hfz162_2
                    try clear hfz162_3
                    try clear hfz165_0
                    try clear hfz165_1
                    try clear hfz165_2
                    try clear hfz165_3
                    try clear hfz166_0
                    try clear hfz166_1
                    try clear hfz166_2
                    try clear hfz166_3
                    try clear hfz169_0
                    try clear hfz169_1
                    try clear hfz169_2
                    try clear hfz169_3
                    try clear hfz172_0
                    try clear hfz172_1
                    try clear hfz172_2
                    try clear hfz172_3
                    try clear hfz173_0
                    try clear hfz173_1
                    try clear hfz173_2
                    try clear hfz173_3
                    try clear hfz184_0
                    try clear hfz184_1
                    try clear hfz184_2
                    try clear hfz184_3
                    try clear hfz190_0
                    try clear hfz190_1
                    try clear hfz190_2
                    try clear hfz190_3
                    try clear hfz193_0
                    try clear hfz193_1
                    try clear hfz193_2
                    try clear hfz193_3
                    try clear hfz197_0
                    try clear hfz197_1
                    try clear hfz197_2
                    try clear hfz197_3
                    try clear hfz200_0
                    try clear hfz200_1
                    try clear hfz200_2
                    try clear hfz200_3
                    try clear hfz23_0
                    try clear hfz23_1
                    try clear hfz23_2
                    try clear hfz23_3
                    try clear hfz25_0
                    try clear hfz25_1
                    try clear hfz25_2
                    try clear hfz25_3
                    try clear hfz30_0
                    try clear hfz30_1
                    try clear hfz30_2
                    try clear hfz30_3
                    try clear hfz35_0
                    try clear hfz35_1
                    try clear hfz35_2
                    try clear hfz35_3
                    try clear hfz36_0
                    try clear hfz36_1
                    try clear hfz36_2
                    try clear hfz36_3
                    try clear hfz38_0
                    try clear hfz38_1
                    try clear hfz38_2
                    try clear hfz38_3
                    try clear hfz48_0
                    try clear hfz48_1
                    try clear hfz48_2
                    try clear hfz48_3
                    try clear hfz51_0
                    try clear hfz51_1
                    try clear hfz51_2
                    try clear hfz51_3
                    try clear hfz52_0
                    try clear hfz52_1
                    try clear hfz52_2
                    try clear hfz52_3
                    try clear hfz62_0
                    try clear hfz62_1
                    try clear hfz62_2
                    try clear hfz62_3
                    try clear hfz65_0
                    try clear hfz65_1
                    try clear hfz65_2
                    try clear hfz65_3
                    try clear hfz66_0
                    try clear hfz66_1
                    try clear hfz66_2
                    try clear hfz66_3
                    try clear hfz71_0
                    try clear hfz71_1
                    try clear hfz71_2
                    try clear hfz71_3
                    try clear hfz74_0
                    try clear hfz74_1
                    try clear hfz74_2
                    try clear hfz74_3
                    try clear hfz75_0
                    try clear hfz75_1
                    try clear hfz75_2
                    try clear hfz75_3
                    try clear hfz78_0
                    try clear hfz78_1
                    try clear hfz78_2
                    try clear hfz78_3
                    try clear hfz7_0
                    try clear hfz7_1
                    try clear hfz7_2
                    try clear hfz7_3
                    try clear hfz81_0
                    try clear hfz81_1
                    try clear hfz81_2
                    try clear hfz81_3
                    try clear hfz82_0
                    try clear hfz82_1
                    try clear hfz82_2
                    try clear hfz82_3
                    try clear hfz85_0
                    try clear hfz85_1
                    try clear hfz85_2
                    try clear hfz85_3
                    try clear hfz88_0
                    try clear hfz88_1
                    try clear hfz88_2
                    try clear hfz88_3
                    try clear hfz89_0
                    try clear hfz89_1
                    try clear hfz89_2
                    try clear hfz89_3
                    try clear hfz92_0
                    try clear hfz92_1
                    try clear hfz92_2
                    try clear hfz92_3
                    try clear hfz95_0
                    try clear hfz95_1
                    try clear hfz95_2
                    try clear hfz95_3
                    try clear hfz96_0
                    try clear hfz96_1
                    try clear hfz96_2
                    try clear hfz96_3
                    try clear hfz99_0
                    try clear hfz99_1
                    try clear hfz99_2
                    try clear hfz99_3
                    try clear hfz9_0
                    try clear hfz9_1
                    try clear hfz9_2
                    try clear hfz9_3
                    try clear p2
                    obtain ⟨kq, x6_177, rfl, HA, HJ177, BK156, BK169, BK176, BK195, HB⟩ := hcut
                    cases kq with
                    | zero => exact absurd HA.out (by simp [bywashlaw7_FrameTells.j2])
                    | succ kj177 =>
                      have H := HA.out
                      clear HA
                      simp only [bywashlaw7_FrameTells.j2] at H
                      obtain rfl := Option.some.inj H
                      go_wp2
                      go_ret
                      exact ⟨by first | rfl | (simp [errW_none, errW_some] <;> rfl) | (simp [*, errW_none, errW_some] <;> rfl), by repeat (first | (with_reducible first | exact HB.out | apply below_alloc | apply pw_below_drewN | apply below_drew1 | refine below_set ?_ GE156.out | refine below_set ?_ GE169.out | refine below_set ?_ GE176.out | refine below_set ?_ GE195.out) | exact HB.out)⟩
                · rw [if_neg c176] at H
                  exact absurd H (by simp)
              · replace c175 := Bool.eq_false_iff.mpr c175
                subst c175
                have H1 : (some true) = some r := by rw [if_neg (show ¬ (false = true) by decide)] at H; exact H
                clear H
                have H := H1
                clear H1
                obtain rfl := Option.some.inj H
                go_wp2
                go_ret
                exact ⟨by first | rfl | (simp [errW_none, errW_some] <;> rfl) | (simp [*, errW_none, errW_some] <;> rfl), by repeat (first | (with_reducible first | exact HB.out | apply below_alloc | apply pw_below_drewN | apply below_drew1 | refine below_set ?_ GE156.out | refine below_set ?_ GE169.out | refine below_set ?_ GE176.out) | exact HB.out)⟩

end Go.Proofs.Ytehccigpbchbcaa.PFrameTells
