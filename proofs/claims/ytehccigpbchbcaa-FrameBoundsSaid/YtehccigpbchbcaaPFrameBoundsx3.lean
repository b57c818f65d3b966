-- Written by a program of this session (the kit's printer, turned): the functions that the law reaches.
import Derived.Test.YtehccigpbchbcaaPFrameBoundsx0
import Derived.Test.YtehccigpbchbcaaPFrameBoundsx1
import Derived.Test.YtehccigpbchbcaaPFrameBoundsx2
namespace Go.Proofs.Ytehccigpbchbcaa.PFrameBounds
open Go.RowKit Go.Proofs.YtehccigpbchbcaaW.PrintWords Go.Proofs.YtehccigpbchbcaaW.PrintLast Go.Proofs.YtehccigpbchbcaaW.PrintMore
attribute [local go_sem] max2_int min2_int max_two min_two max_three min_three max_four min_four   -- for this text's walks alone
set_option linter.unusedVariables false
set_option linter.unusedSimpArgs false

/-! ### bywashlaw7_alive: function 9 -/
def bywashlaw7_alive.j0 : Nat → Bool → Option (Bool)
  | 0, _ => none
  | k + 1, x0 => some x0
def bywashlaw7_alive.f (k : Nat)  : Option (Bool) := (frame_Put.f k 6 0 0 (⟨#[49, 50, 51, 52, 53, 54, 55, 56]⟩ : ByteArray)).bind fun bt123 => (if bt123.1.size + 1 ≤ 9223372036854775807 then ((frame_Get.f k (bt123.1 ++ (⟨#[120]⟩ : ByteArray))).bind fun bt125 => ((frame_Strip.f k 0 8 0 (⟨#[1, 97, 98]⟩ : ByteArray)).bind fun bt132 => (if bt123.2 = true then (if (bt123.1.size : Int) = 17 then (if bt125.2.2.2.2.1 = 17 then (if bt125.2.2.2.2.2 = 0 then (if bt125.2.2.2.1.toList = ([49, 50, 51, 52, 53, 54, 55, 56] : List UInt8) then (if bt132.1.toList = ([97] : List UInt8) then (if bt132.2.1 = 2 then (if bt132.2.2 = 0 then ((frame_Name.f 7).bind fun t135 => (bywashlaw7_alive.j0 k (t135.toList == ([97, 119, 97, 121] : List UInt8)))) else (bywashlaw7_alive.j0 k false)) else (bywashlaw7_alive.j0 k false)) else (bywashlaw7_alive.j0 k false)) else (bywashlaw7_alive.j0 k false)) else (bywashlaw7_alive.j0 k false)) else (bywashlaw7_alive.j0 k false)) else (bywashlaw7_alive.j0 k false)) else (bywashlaw7_alive.j0 k false)))) else (none))
theorem bywashlaw7_alive.mono_l : ∀ k, (∀ y0, LeO (bywashlaw7_alive.j0 k y0) (bywashlaw7_alive.j0 (k + 1) y0))
  | 0 => fun _ r h => by simp [bywashlaw7_alive.j0] at h
  | k + 1 => by
    have ih0 := bywashlaw7_alive.mono_l k
    · intro y0
      unfold bywashlaw7_alive.j0
      repeat' first
      | (with_reducible exact ih0 _)
      | (with_reducible exact frame_Get.mono _ _)
      | (with_reducible exact frame_Put.mono _ _ _ _ _)
      | (with_reducible exact frame_Strip.mono _ _ _ _ _)
      | (with_reducible exact LeO.refl _)
      | (with_reducible exact LeO.none _)
      | (with_reducible refine LeO.ite ?_ ?_)
      | (with_reducible refine LeO.bind ?_ (fun _ => ?_))
      | exact ih0 _
      | exact frame_Get.mono _ _
      | exact frame_Put.mono _ _ _ _ _
      | exact frame_Strip.mono _ _ _ _ _
      | exact LeO.none _
      | refine LeO.ite ?_ ?_
      | refine LeO.bind ?_ (fun _ => ?_)
theorem bywashlaw7_alive.mono : ∀ k, LeO (bywashlaw7_alive.f k ) (bywashlaw7_alive.f (k + 1) ) := by
  intro  k
  have ih0 := bywashlaw7_alive.mono_l k
  unfold bywashlaw7_alive.f
  repeat' first
      | (with_reducible exact ih0 _)
      | (with_reducible exact frame_Get.mono _ _)
      | (with_reducible exact frame_Put.mono _ _ _ _ _)
      | (with_reducible exact frame_Strip.mono _ _ _ _ _)
      | (with_reducible exact LeO.refl _)
      | (with_reducible exact LeO.none _)
      | (with_reducible refine LeO.ite ?_ ?_)
      | (with_reducible refine LeO.bind ?_ (fun _ => ?_))
      | exact ih0 _
      | exact frame_Get.mono _ _
      | exact frame_Put.mono _ _ _ _ _
      | exact frame_Strip.mono _ _ _ _ _
      | exact LeO.none _
      | refine LeO.ite ?_ ?_
      | refine LeO.bind ?_ (fun _ => ?_)
set_option maxHeartbeats 8000000 in
set_option maxRecDepth 100000 in
theorem bywashlaw7_alive.calls (k : Nat)  (r : Bool) (w : World) (h : bywashlaw7_alive.f k  = some r) :
    Calls Try.prog 9 #[] w fun e w' => e = .returned (.bool r) ∧ Below w.heap.size w w' := by
  have hu23 := Try.underlying23
  have HB := Aside0.mk (Below.refl w.heap.size w)
  have H : ((frame_Put.f k 6 0 0 (⟨#[49, 50, 51, 52, 53, 54, 55, 56]⟩ : ByteArray)).bind fun bt123 => (if bt123.1.size + 1 ≤ 9223372036854775807 then ((frame_Get.f k (bt123.1 ++ (⟨#[120]⟩ : ByteArray))).bind fun bt125 => ((frame_Strip.f k 0 8 0 (⟨#[1, 97, 98]⟩ : ByteArray)).bind fun bt132 => (if bt123.2 = true then (if (bt123.1.size : Int) = 17 then (if bt125.2.2.2.2.1 = 17 then (if bt125.2.2.2.2.2 = 0 then (if bt125.2.2.2.1.toList = ([49, 50, 51, 52, 53, 54, 55, 56] : List UInt8) then (if bt132.1.toList = ([97] : List UInt8) then (if bt132.2.1 = 2 then (if bt132.2.2 = 0 then ((frame_Name.f 7).bind fun t135 => (bywashlaw7_alive.j0 k (t135.toList == ([97, 119, 97, 121] : List UInt8)))) else (bywashlaw7_alive.j0 k false)) else (bywashlaw7_alive.j0 k false)) else (bywashlaw7_alive.j0 k false)) else (bywashlaw7_alive.j0 k false)) else (bywashlaw7_alive.j0 k false)) else (bywashlaw7_alive.j0 k false)) else (bywashlaw7_alive.j0 k false)) else (bywashlaw7_alive.j0 k false)))) else (none))) = some r := h
  clear h
  replace H := Option.bind_eq_some_iff.mp H
  obtain ⟨⟨t123, t124⟩, A10, H⟩ := H
  replace H : (if t123.size + 1 ≤ 9223372036854775807 then ((frame_Get.f k (t123 ++ (⟨#[120]⟩ : ByteArray))).bind fun bt125 => ((frame_Strip.f k 0 8 0 (⟨#[1, 97, 98]⟩ : ByteArray)).bind fun bt132 => (if t124 = true then (if (t123.size : Int) = 17 then (if bt125.2.2.2.2.1 = 17 then (if bt125.2.2.2.2.2 = 0 then (if bt125.2.2.2.1.toList = ([49, 50, 51, 52, 53, 54, 55, 56] : List UInt8) then (if bt132.1.toList = ([97] : List UInt8) then (if bt132.2.1 = 2 then (if bt132.2.2 = 0 then ((frame_Name.f 7).bind fun t135 => (bywashlaw7_alive.j0 k (t135.toList == ([97, 119, 97, 121] : List UInt8)))) else (bywashlaw7_alive.j0 k false)) else (bywashlaw7_alive.j0 k false)) else (bywashlaw7_alive.j0 k false)) else (bywashlaw7_alive.j0 k false)) else (bywashlaw7_alive.j0 k false)) else (bywashlaw7_alive.j0 k false)) else (bywashlaw7_alive.j0 k false)) else (bywashlaw7_alive.j0 k false)))) else (none)) = some r := H
  have A1 := Aside0.mk A10
  clear A10
  by_cases c2 : t123.size + 1 ≤ 9223372036854775807
  · rw [if_pos c2] at H
    have c2b0 := eq_true c2
    have c2b1 : decide (t123.size + 1 ≤ 9223372036854775807) = true := decide_eq_true c2
    try have c2b2 : (9223372036854775807 < t123.size + 1) = False := eq_false (Nat.not_lt.2 c2)
    replace H := Option.bind_eq_some_iff.mp H
    obtain ⟨⟨t125, t126, t127, t128, t129, t130⟩, A30, H⟩ := H
    replace H : ((frame_Strip.f k 0 8 0 (⟨#[1, 97, 98]⟩ : ByteArray)).bind fun bt132 => (if t124 = true then (if (t123.size : Int) = 17 then (if t129 = 17 then (if t130 = 0 then (if t128.toList = ([49, 50, 51, 52, 53, 54, 55, 56] : List UInt8) then (if bt132.1.toList = ([97] : List UInt8) then (if bt132.2.1 = 2 then (if bt132.2.2 = 0 then ((frame_Name.f 7).bind fun t135 => (bywashlaw7_alive.j0 k (t135.toList == ([97, 119, 97, 121] : List UInt8)))) else (bywashlaw7_alive.j0 k false)) else (bywashlaw7_alive.j0 k false)) else (bywashlaw7_alive.j0 k false)) else (bywashlaw7_alive.j0 k false)) else (bywashlaw7_alive.j0 k false)) else (bywashlaw7_alive.j0 k false)) else (bywashlaw7_alive.j0 k false)) else (bywashlaw7_alive.j0 k false))) = some r := H
    have A3 := Aside0.mk A30
    clear A30
    replace H := Option.bind_eq_some_iff.mp H
    obtain ⟨⟨t132, t133, t134⟩, A40, H⟩ := H
    replace H : (if t124 = true then (if (t123.size : Int) = 17 then (if t129 = 17 then (if t130 = 0 then (if t128.toList = ([49, 50, 51, 52, 53, 54, 55, 56] : List UInt8) then (if t132.toList = ([97] : List UInt8) then (if t133 = 2 then (if t134 = 0 then ((frame_Name.f 7).bind fun t135 => (bywashlaw7_alive.j0 k (t135.toList == ([97, 119, 97, 121] : List UInt8)))) else (bywashlaw7_alive.j0 k false)) else (bywashlaw7_alive.j0 k false)) else (bywashlaw7_alive.j0 k false)) else (bywashlaw7_alive.j0 k false)) else (bywashlaw7_alive.j0 k false)) else (bywashlaw7_alive.j0 k false)) else (bywashlaw7_alive.j0 k false)) else (bywashlaw7_alive.j0 k false)) = some r := H
    have A4 := Aside0.mk A40
    clear A40
    have HC5 := Aside0.mk H
    clear H
    go_enter Try.func9, Try.ntmps9
    go_upto_region 4 with (first | ((with_reducible refine gate_callee (f := 10) rfl ?_); refine goesL_ (some 11) rfl rfl Try.func10 (by kernel_rfl) rfl #[.agg #[.int .i64 6, .int .i64 0, .int .i64 0, .string (⟨#[49, 50, 51, 52, 53, 54, 55, 56]⟩ : ByteArray)]] rfl (by (try simp only [List.map_toArray, List.map_cons, List.map_nil]); first | done | rfl | (simp only [List.length_drop, List.length_take]; rfl)) ?_; (with_reducible refine (frame_Put.calls k 6 0 0 (⟨#[49, 50, 51, 52, 53, 54, 55, 56]⟩ : ByteArray) t123 t124 _ A1.out).mono ?_); rintro e w6 ⟨rfl, hb⟩; refine ⟨_, rfl, ?_⟩; have n0_ := Aside0.mk (below_step (by repeat (first | (with_reducible first | exact HB.out | apply below_alloc | apply pw_below_drewN | apply below_drew1) | exact HB.out)) hb); clear HB; have HB := n0_; clear n0_; (try clear hb); (try clear hb2); (try clear hk); (try clear hi)) | ((with_reducible refine gate_callee (f := 12) rfl ?_); refine goesL_ (some 17) rfl rfl Try.func12 (by kernel_rfl) rfl #[.string (t123 ++ (⟨#[120]⟩ : ByteArray))] rfl (by (try simp only [List.map_toArray, List.map_cons, List.map_nil]); first | done | rfl | (simp only [List.length_drop, List.length_take]; rfl)) ?_; (with_reducible refine (frame_Get.calls k (t123 ++ (⟨#[120]⟩ : ByteArray)) t125 t126 t127 t128 t129 t130 _ A3.out).mono ?_); rintro e w7 ⟨rfl, hb⟩; refine ⟨_, rfl, ?_⟩; have n0_ := Aside0.mk (below_step (by repeat (first | (with_reducible first | exact HB.out | apply below_alloc | apply pw_below_drewN | apply below_drew1) | exact HB.out)) hb); clear HB; have HB := n0_; clear n0_; (try clear hb); (try clear hb2); (try clear hk); (try clear hi)) | ((with_reducible refine gate_dst (N := 3) rfl ?_); (try (refine gate_guard (by rfl) ?_; dsimp only)); refine box_event ?hg (N := 3) ?hd (cs := #[.int .i64 0, .int .i64 0, .int .i64 0, .string (⟨#[]⟩ : ByteArray)]) (t := 23) ?hr ?_; (case hd => rfl); (case hg => rfl); (case hr => first | (go_simp; done) | (go_simp; rfl)); intro gb131 hg w8 hbox hb; have n0_ := Aside0.mk (below_step (by repeat (first | (with_reducible first | exact HB.out | apply below_alloc | apply pw_below_drewN | apply below_drew1) | exact HB.out)) hb); have n1_ := Aside0.mk (hbox); have n2_ := Aside0.mk ((by rw [hg]; exact (below_size (by repeat (first | (with_reducible first | exact HB.out | apply below_alloc | apply pw_below_drewN | apply below_drew1) | exact HB.out))) : w.heap.size ≤ gb131)); have n3_ := Aside0.mk ((by rw [hg]; exact (below_size (by repeat (first | (with_reducible first | exact HB.out | apply below_alloc | apply pw_below_drewN | apply below_drew1) | exact HB.out))) : w.heap.size ≤ gb131)); clear HB; have HB := n0_; have BK131 := n1_; have GW131 := n2_; have GE131 := n3_; clear n0_ n1_ n2_ n3_; clear hb hbox hg; have hcz9_0 : w8.cell? ⟨gb131, 0, none⟩ = some (.int .i64 0) := (blk_cell BK131.out 0).trans rfl; have hcz9_1 : w8.cell? ⟨gb131, 1, none⟩ = some (.int .i64 0) := (blk_cell BK131.out 1).trans rfl; have hcz9_2 : w8.cell? ⟨gb131, 2, none⟩ = some (.int .i64 0) := (blk_cell BK131.out 2).trans rfl; have hcz9_3 : w8.cell? ⟨gb131, 3, none⟩ = some (.string (⟨#[]⟩ : ByteArray)) := (blk_cell BK131.out 3).trans rfl; have hfz9_0 := blk_frozen BK131.out 0; have hfz9_1 := blk_frozen BK131.out 1; have hfz9_2 := blk_frozen BK131.out 2; have hfz9_3 := blk_frozen BK131.out 3) | ((with_reducible refine gate_callee (f := 14) rfl ?_); refine goesL_ (some 23) rfl rfl Try.func14 (by kernel_rfl) rfl #[.agg #[.int .i64 0, .int .i64 8, .int .i64 0, .string (⟨#[1, 97, 98]⟩ : ByteArray)]] rfl (by (try simp only [List.map_toArray, List.map_cons, List.map_nil]); first | done | rfl | (simp only [List.length_drop, List.length_take]; rfl)) ?_; (with_reducible refine (frame_Strip.calls k 0 8 0 (⟨#[1, 97, 98]⟩ : ByteArray) t132 t133 t134 _ A4.out).mono ?_); rintro e w10 ⟨rfl, hb⟩; refine ⟨_, rfl, ?_⟩; have n0_ := Aside0.mk (blk_below (g := gb131) (o := .cells #[.int .i64 t125, .int .i64 t126, .int .i64 t127, .string t128] 23 (0, 0)) (by (with_reducible repeat (first | refine blk_drewN ?_ _ | refine blk_drew ?_ | refine blk_alloc ?_ _)); refine blk_put (cs := #[.int .i64 t125, .int .i64 t126, .int .i64 t127, .string (⟨#[]⟩ : ByteArray)]) ?_ 3 _ rfl; (with_reducible repeat (first | refine blk_drewN ?_ _ | refine blk_drew ?_ | refine blk_alloc ?_ _)); refine blk_put (cs := #[.int .i64 t125, .int .i64 t126, .int .i64 0, .string (⟨#[]⟩ : ByteArray)]) ?_ 2 _ rfl; (with_reducible repeat (first | refine blk_drewN ?_ _ | refine blk_drew ?_ | refine blk_alloc ?_ _)); refine blk_put (cs := #[.int .i64 t125, .int .i64 0, .int .i64 0, .string (⟨#[]⟩ : ByteArray)]) ?_ 1 _ rfl; (with_reducible repeat (first | refine blk_drewN ?_ _ | refine blk_drew ?_ | refine blk_alloc ?_ _)); refine blk_put (cs := #[.int .i64 0, .int .i64 0, .int .i64 0, .string (⟨#[]⟩ : ByteArray)]) ?_ 0 _ rfl; (with_reducible repeat (first | refine blk_drewN ?_ _ | refine blk_drew ?_ | refine blk_alloc ?_ _)); exact BK131.out) hb); have n1_ := Aside0.mk (below_step (by repeat (first | (with_reducible first | exact HB.out | apply below_alloc | apply pw_below_drewN | apply below_drew1 | refine below_set ?_ GE131.out) | exact HB.out)) hb); clear BK131; clear HB; have BK131 := n0_; have HB := n1_; clear n0_ n1_; (try clear hb); (try clear hb2); (try clear hk); (try clear hi)))
    (try simp only [Act.put, List.setIfInBounds_toArray, List.set_cons_zero, List.set_cons_succ])
    go_cut [0] (fun v0 wc => ∃ (kq : Nat) (x0_4 : Bool), v0 = .bool x0_4 ∧ Aside0 (bywashlaw7_alive.j0 kq x0_4 = some r) ∧ Aside0 (kq ≤ k) ∧ Aside0 (wc.heap[gb131]? = some (.cells #[.int .i64 t125, .int .i64 t126, .int .i64 t127, .string t128] 23 (0, 0))) ∧ Aside0 (Below w.heap.size w wc))
    case first =>
      have H := HC5.out
      clear HC5
      by_cases c11 : t124 = true
      · subst c11
        have H1 : (if (t123.size : Int) = 17 then (if t129 = 17 then (if t130 = 0 then (if t128.toList = ([49, 50, 51, 52, 53, 54, 55, 56] : List UInt8) then (if t132.toList = ([97] : List UInt8) then (if t133 = 2 then (if t134 = 0 then ((frame_Name.f 7).bind fun t135 => (bywashlaw7_alive.j0 k (t135.toList == ([97, 119, 97, 121] : List UInt8)))) else (bywashlaw7_alive.j0 k false)) else (bywashlaw7_alive.j0 k false)) else (bywashlaw7_alive.j0 k false)) else (bywashlaw7_alive.j0 k false)) else (bywashlaw7_alive.j0 k false)) else (bywashlaw7_alive.j0 k false)) else (bywashlaw7_alive.j0 k false)) = some r := by rw [if_pos rfl] at H; exact H
        clear H
        have H := H1
        clear H1
        by_cases c12 : (t123.size : Int) = 17
        · rw [if_pos c12] at H
          have c12b0 : ((t123.size : Int) == 17) = true := beq_iff_eq.mpr c12
          have c12b1 : ((t123.size : Int) != 17) = false := bne_eq_false_iff_eq.mpr c12
          clear c12
          (first | rw [c12b0] | (simp only [i64_w, i32_w]; rw [c12b0]) | skip)
          by_cases c13 : t129 = 17
          · rw [if_pos c13] at H
            have c13b0 : (t129 == 17) = true := beq_iff_eq.mpr c13
            have c13b1 : (t129 != 17) = false := bne_eq_false_iff_eq.mpr c13
            clear c13
            by_cases c14 : t130 = 0
            · rw [if_pos c14] at H
              have c14b0 : (t130 == 0) = true := beq_iff_eq.mpr c14
              have c14b1 : (t130 != 0) = false := bne_eq_false_iff_eq.mpr c14
              clear c14
              by_cases c15 : t128.toList = ([49, 50, 51, 52, 53, 54, 55, 56] : List UInt8)
              · rw [if_pos c15] at H
                have c15b0 : (t128.toList == ([49, 50, 51, 52, 53, 54, 55, 56] : List UInt8)) = true := beq_iff_eq.mpr c15
                have c15b1 : (t128.toList != ([49, 50, 51, 52, 53, 54, 55, 56] : List UInt8)) = false := bne_eq_false_iff_eq.mpr c15
                clear c15
                by_cases c16 : t132.toList = ([97] : List UInt8)
                · rw [if_pos c16] at H
                  have c16b0 : (t132.toList == ([97] : List UInt8)) = true := beq_iff_eq.mpr c16
                  have c16b1 : (t132.toList != ([97] : List UInt8)) = false := bne_eq_false_iff_eq.mpr c16
                  clear c16
                  by_cases c17 : t133 = 2
                  · rw [if_pos c17] at H
                    have c17b0 : (t133 == 2) = true := beq_iff_eq.mpr c17
                    have c17b1 : (t133 != 2) = false := bne_eq_false_iff_eq.mpr c17
                    clear c17
                    by_cases c18 : t134 = 0
                    · rw [if_pos c18] at H
                      have c18b0 : (t134 == 0) = true := beq_iff_eq.mpr c18
                      have c18b1 : (t134 != 0) = false := bne_eq_false_iff_eq.mpr c18
                      clear c18
                      replace H := Option.bind_eq_some_iff.mp H
                      obtain ⟨t135, A190, H⟩ := H
                      replace H : (bywashlaw7_alive.j0 k (t135.toList == ([97, 119, 97, 121] : List UInt8))) = some r := H
                      have A19 := Aside0.mk A190
                      clear A190
                      have H' := Aside0.mk H
                      clear H
                      have hcz20_0 : w10.cell? ⟨gb131, 0, none⟩ = some (.int .i64 t125) := (blk_cell BK131.out 0).trans rfl
                      have hcz20_1 : w10.cell? ⟨gb131, 1, none⟩ = some (.int .i64 t126) := (blk_cell BK131.out 1).trans rfl
                      have hcz20_2 : w10.cell? ⟨gb131, 2, none⟩ = some (.int .i64 t127) := (blk_cell BK131.out 2).trans rfl
                      have hcz20_3 : w10.cell? ⟨gb131, 3, none⟩ = some (.string t128) := (blk_cell BK131.out 3).trans rfl
                      have hfz20_0 := blk_frozen BK131.out 0
                      have hfz20_1 := blk_frozen BK131.out 1
                      have hfz20_2 := blk_frozen BK131.out 2
                      have hfz20_3 := blk_frozen BK131.out 3
                      go_wp2_with (first | (go_at_call 17; (with_reducible refine (frame_Name.calls 7 t135 _ A19.out).mono ?_); rintro e w21 ⟨rfl, hb⟩; have n0_ := Aside0.mk (blk_below (g := gb131) (o := .cells #[.int .i64 t125, .int .i64 t126, .int .i64 t127, .string t128] 23 (0, 0)) (by (with_reducible repeat (first | refine blk_drewN ?_ _ | refine blk_drew ?_ | refine blk_alloc ?_ _)); exact BK131.out) hb); have n1_ := Aside0.mk (below_step (by repeat (first | (with_reducible first | exact HB.out | apply below_alloc | apply pw_below_drewN | apply below_drew1 | refine below_set ?_ GE131.out) | exact HB.out)) hb); clear BK131; clear HB; have BK131 := n0_; have HB := n1_; clear n0_ n1_; (try clear hb); (try clear hb2); (try clear hk); (try clear hi)))
                      go_meet
                      case rel => exact ⟨_, ((t135.toList == ([97, 119, 97, 121] : List UInt8))), (by first | rfl | (simp; done) | (simp [*]; done)), H', ⟨by first | omega | exact Nat.le_refl _⟩, ⟨by (with_reducible repeat (first | refine blk_drewN ?_ _ | refine blk_drew ?_ | refine blk_alloc ?_ _)); exact BK131.out⟩, ⟨by repeat (first | (with_reducible first | exact HB.out | apply below_alloc | apply pw_below_drewN | apply below_drew1 | refine below_set ?_ GE131.out) | exact HB.out)⟩⟩
                    · rw [if_neg c18] at H
                      have c18b0 : (t134 == 0) = false := beq_eq_false_iff_ne.mpr c18
                      have c18b1 : (t134 != 0) = true := bne_iff_ne.mpr c18
                      have H' := Aside0.mk H
                      clear H
                      have hcz22_0 : w10.cell? ⟨gb131, 0, none⟩ = some (.int .i64 t125) := (blk_cell BK131.out 0).trans rfl
                      have hcz22_1 : w10.cell? ⟨gb131, 1, none⟩ = some (.int .i64 t126) := (blk_cell BK131.out 1).trans rfl
                      have hcz22_2 : w10.cell? ⟨gb131, 2, none⟩ = some (.int .i64 t127) := (blk_cell BK131.out 2).trans rfl
                      have hcz22_3 : w10.cell? ⟨gb131, 3, none⟩ = some (.string t128) := (blk_cell BK131.out 3).trans rfl
                      have hfz22_0 := blk_frozen BK131.out 0
                      have hfz22_1 := blk_frozen BK131.out 1
                      have hfz22_2 := blk_frozen BK131.out 2
                      have hfz22_3 := blk_frozen BK131.out 3
                      go_wp2
                      go_meet
                      case rel => exact ⟨_, (false), (by first | rfl | (simp; done) | (simp [*]; done)), H', ⟨by first | omega | exact Nat.le_refl _⟩, ⟨by (with_reducible repeat (first | refine blk_drewN ?_ _ | refine blk_drew ?_ | refine blk_alloc ?_ _)); exact BK131.out⟩, ⟨by repeat (first | (with_reducible first | exact HB.out | apply below_alloc | apply pw_below_drewN | apply below_drew1 | refine below_set ?_ GE131.out) | exact HB.out)⟩⟩
                  · rw [if_neg c17] at H
                    have c17b0 : (t133 == 2) = false := beq_eq_false_iff_ne.mpr c17
                    have c17b1 : (t133 != 2) = true := bne_iff_ne.mpr c17
                    have H' := Aside0.mk H
                    clear H
                    have hcz23_0 : w10.cell? ⟨gb131, 0, none⟩ = some (.int .i64 t125) := (blk_cell BK131.out 0).trans rfl
                    have hcz23_1 : w10.cell? ⟨gb131, 1, none⟩ = some (.int .i64 t126) := (blk_cell BK131.out 1).trans rfl
                    have hcz23_2 : w10.cell? ⟨gb131, 2, none⟩ = some (.int .i64 t127) := (blk_cell BK131.out 2).trans rfl
                    have hcz23_3 : w10.cell? ⟨gb131, 3, none⟩ = some (.string t128) := (blk_cell BK131.out 3).trans rfl
                    have hfz23_0 := blk_frozen BK131.out 0
                    have hfz23_1 := blk_frozen BK131.out 1
                    have hfz23_2 := blk_frozen BK131.out 2
                    have hfz23_3 := blk_frozen BK131.out 3
                    go_wp2
                    go_meet
                    case rel => exact ⟨_, (false), (by first | rfl | (simp; done) | (simp [*]; done)), H', ⟨by first | omega | exact Nat.le_refl _⟩, ⟨by (with_reducible repeat (first | refine blk_drewN ?_ _ | refine blk_drew ?_ | refine blk_alloc ?_ _)); exact BK131.out⟩, ⟨by repeat (first | (with_reducible first | exact HB.out | apply below_alloc | apply pw_below_drewN | apply below_drew1 | refine below_set ?_ GE131.out) | exact HB.out)⟩⟩
                · rw [if_neg c16] at H
                  have c16b0 : (t132.toList == ([97] : List UInt8)) = false := beq_eq_false_iff_ne.mpr c16
                  have c16b1 : (t132.toList != ([97] : List UInt8)) = true := bne_iff_ne.mpr c16
                  have H' := Aside0.mk H
                  clear H
                  have hcz24_0 : w10.cell? ⟨gb131, 0, none⟩ = some (.int .i64 t125) := (blk_cell BK131.out 0).trans rfl
                  have hcz24_1 : w10.cell? ⟨gb131, 1, none⟩ = some (.int .i64 t126) := (blk_cell BK131.out 1).trans rfl
                  have hcz24_2 : w10.cell? ⟨gb131, 2, none⟩ = some (.int .i64 t127) := (blk_cell BK131.out 2).trans rfl
                  have hcz24_3 : w10.cell? ⟨gb131, 3, none⟩ = some (.string t128) := (blk_cell BK131.out 3).trans rfl
                  have hfz24_0 := blk_frozen BK131.out 0
                  have hfz24_1 := blk_frozen BK131.out 1
                  have hfz24_2 := blk_frozen BK131.out 2
                  have hfz24_3 := blk_frozen BK131.out 3
                  go_wp2
                  go_meet
                  case rel => exact ⟨_, (false), (by first | rfl | (simp; done) | (simp [*]; done)), H', ⟨by first | omega | exact Nat.le_refl _⟩, ⟨by (with_reducible repeat (first | refine blk_drewN ?_ _ | refine blk_drew ?_ | refine blk_alloc ?_ _)); exact BK131.out⟩, ⟨by repeat (first | (with_reducible first | exact HB.out | apply below_alloc | apply pw_below_drewN | apply below_drew1 | refine below_set ?_ GE131.out) | exact HB.out)⟩⟩
              · rw [if_neg c15] at H
                have c15b0 : (t128.toList == ([49, 50, 51, 52, 53, 54, 55, 56] : List UInt8)) = false := beq_eq_false_iff_ne.mpr c15
                have c15b1 : (t128.toList != ([49, 50, 51, 52, 53, 54, 55, 56] : List UInt8)) = true := bne_iff_ne.mpr c15
                have H' := Aside0.mk H
                clear H
                have hcz25_0 : w10.cell? ⟨gb131, 0, none⟩ = some (.int .i64 t125) := (blk_cell BK131.out 0).trans rfl
                have hcz25_1 : w10.cell? ⟨gb131, 1, none⟩ = some (.int .i64 t126) := (blk_cell BK131.out 1).trans rfl
                have hcz25_2 : w10.cell? ⟨gb131, 2, none⟩ = some (.int .i64 t127) := (blk_cell BK131.out 2).trans rfl
                have hcz25_3 : w10.cell? ⟨gb131, 3, none⟩ = some (.string t128) := (blk_cell BK131.out 3).trans rfl
                have hfz25_0 := blk_frozen BK131.out 0
                have hfz25_1 := blk_frozen BK131.out 1
                have hfz25_2 := blk_frozen BK131.out 2
                have hfz25_3 := blk_frozen BK131.out 3
                go_wp2
                go_meet
                case rel => exact ⟨_, (false), (by first | rfl | (simp; done) | (simp [*]; done)), H', ⟨by first | omega | exact Nat.le_refl _⟩, ⟨by (with_reducible repeat (first | refine blk_drewN ?_ _ | refine blk_drew ?_ | refine blk_alloc ?_ _)); exact BK131.out⟩, ⟨by repeat (first | (with_reducible first | exact HB.out | apply below_alloc | apply pw_below_drewN | apply below_drew1 | refine below_set ?_ GE131.out) | exact HB.out)⟩⟩
            · rw [if_neg c14] at H
              have c14b0 : (t130 == 0) = false := beq_eq_false_iff_ne.mpr c14
              have c14b1 : (t130 != 0) = true := bne_iff_ne.mpr c14
              have H' := Aside0.mk H
              clear H
              go_wp2
              go_meet
              case rel => exact ⟨_, (false), (by first | rfl | (simp; done) | (simp [*]; done)), H', ⟨by first | omega | exact Nat.le_refl _⟩, ⟨by (with_reducible repeat (first | refine blk_drewN ?_ _ | refine blk_drew ?_ | refine blk_alloc ?_ _)); exact BK131.out⟩, ⟨by repeat (first | (with_reducible first | exact HB.out | apply below_alloc | apply pw_below_drewN | apply below_drew1 | refine below_set ?_ GE131.out) | exact HB.out)⟩⟩
          · rw [if_neg c13] at H
            have c13b0 : (t129 == 17) = false := beq_eq_false_iff_ne.mpr c13
            have c13b1 : (t129 != 17) = true := bne_iff_ne.mpr c13
            have H' := Aside0.mk H
            clear H
            go_wp2
            go_meet
            case rel => exact ⟨_, (false), (by first | rfl | (simp; done) | (simp [*]; done)), H', ⟨by first | omega | exact Nat.le_refl _⟩, ⟨by (with_reducible repeat (first | refine blk_drewN ?_ _ | refine blk_drew ?_ | refine blk_alloc ?_ _)); exact BK131.out⟩, ⟨by repeat (first | (with_reducible first | exact HB.out | apply below_alloc | apply pw_below_drewN | apply below_drew1 | refine below_set ?_ GE131.out) | exact HB.out)⟩⟩
        · rw [if_neg c12] at H
          have c12b0 : ((t123.size : Int) == 17) = false := beq_eq_false_iff_ne.mpr c12
          have c12b1 : ((t123.size : Int) != 17) = true := bne_iff_ne.mpr c12
          (first | rw [c12b0] | (simp only [i64_w, i32_w]; rw [c12b0]) | skip)
          have H' := Aside0.mk H
          clear H
          go_wp2
          go_meet
          case rel => exact ⟨_, (false), (by first | rfl | (simp; done) | (simp [*]; done)), H', ⟨by first | omega | exact Nat.le_refl _⟩, ⟨by (with_reducible repeat (first | refine blk_drewN ?_ _ | refine blk_drew ?_ | refine blk_alloc ?_ _)); exact BK131.out⟩, ⟨by repeat (first | (with_reducible first | exact HB.out | apply below_alloc | apply pw_below_drewN | apply below_drew1 | refine below_set ?_ GE131.out) | exact HB.out)⟩⟩
      · replace c11 := Bool.eq_false_iff.mpr c11
        subst c11
        have H1 : (bywashlaw7_alive.j0 k false) = some r := by rw [if_neg (show ¬ (false = true) by decide)] at H; exact H
        clear H
        have H := H1
        clear H1
        have H' := Aside0.mk H
        clear H
        go_wp2
        go_meet
        case rel => exact ⟨_, (false), (by first | rfl | (simp; done) | (simp [*]; done)), H', ⟨by first | omega | exact Nat.le_refl _⟩, ⟨by (with_reducible repeat (first | refine blk_drewN ?_ _ | refine blk_drew ?_ | refine blk_alloc ?_ _)); exact BK131.out⟩, ⟨by repeat (first | (with_reducible first | exact HB.out | apply below_alloc | apply pw_below_drewN | apply below_drew1 | refine below_set ?_ GE131.out) | exact HB.out)⟩⟩
    case rest =>
      clear HC5
      try clear c1
      try clear c2
      try clear c2b0
      try clear c2b1
      try clear c2b2
      try clear p2
      try clear c9
      try clear c10
      try clear c11
      try clear c12
      try clear c12b0
      try clear c12b1
      try clear c13
      try clear c13b0
      try clear c13b1
      try clear c14
      try clear c14b0
      try clear c14b1
      try clear c15
      try clear c15b0
      try clear c15b1
      try clear c16
      try clear c16b0
      try clear c16b1
      try clear c17
      try clear c17b0
      try clear c17b1
      try clear c18
      try clear c18b0
      try clear c18b1
      try clear hcz20_0
      try clear hcz20_1
      try clear hcz20_2
      try clear hcz20_3
      try clear hcz22_0
      try clear hcz22_1
      try clear hcz22_2
      try clear hcz22_3
      try clear hcz23_0
      try clear hcz23_1
      try clear hcz23_2
      try clear hcz23_3
      try clear hcz24_0
      try clear hcz24_1
      try clear hcz24_2
      try clear hcz24_3
      try clear hcz25_0
      try clear hcz25_1
      try clear hcz25_2
      try clear hcz25_3
      try clear hcz9_0
      try clear hcz9_1
      try clear hcz9_2
      try clear hcz9_3
      try clear hfz20_0
      try clear hfz20_1
      try clear hfz20_2
      try clear hfz20_3
      try clear hfz22_0
      try clear hfz22_1
      try clear hfz22_2
      try clear hfz22_3
      try clear hfz23_0
      try clear hfz23_1
      try clear hfz23_2
      try clear hfz23_3
      try clear hfz24_0
      try clear hfz24_1
      try clear hfz24_2
      try clear hfz24_3
      try clear hfz25_0
      try clear hfz25_1
      try clear hfz25_2
      try clear hfz25_3
      try clear hfz9_0
      try clear hfz9_1
      try clear hfz9_2
      try clear hfz9_3
      obtain ⟨kq, x0_4, rfl, HA, HJ4, BK131, HB⟩ := hcut
      cases kq with
      | zero => exact absurd HA.out (by simp [bywashlaw7_alive.j0])
      | succ kj4 =>
        have H := HA.out
        clear HA
        simp only [bywashlaw7_alive.j0] at H
        obtain rfl := Option.some.inj H
        go_wp2
        go_ret
        exact ⟨by first | rfl | (simp [errW_none, errW_some] <;> rfl) | (simp [*, errW_none, errW_some] <;> rfl), by repeat (first | (with_reducible first | exact HB.out | apply below_alloc | apply pw_below_drewN | apply below_drew1 | refine below_set ?_ GE131.out) | exact HB.out)⟩
  · rw [if_neg c2] at H
    exact absurd H (by simp)

/-! ### bywashlaw7_FrameBounds: function 7 -/
mutual
def bywashlaw7_FrameBounds.j0 : Nat → Bool → Int → Int → Int → ByteArray → Option (Bool)
  | 0, _, _, _, _, _ => none
  | k + 1, x8, x138000, x138001, x138002, x138003 => (frame_Put.f k x138000 x138001 x138002 x138003).bind fun bt138 => ((frame_Right.f x138000 x138001 x138002 x138003).bind fun t140 => (if t140 = true then (if x8 = true then (if bt138.2 = true then (if (bt138.1.size : Int) = 10 then (bywashlaw7_FrameBounds.j1 k true) else (bywashlaw7_FrameBounds.j1 k false)) else (bywashlaw7_FrameBounds.j1 k false)) else (bywashlaw7_FrameBounds.j1 k false)) else (if x8 = true then (bywashlaw7_FrameBounds.j1 k false) else (if bt138.2 = true then (bywashlaw7_FrameBounds.j1 k false) else (if (bt138.1.size : Int) = 10 then (bywashlaw7_FrameBounds.j1 k false) else (bywashlaw7_FrameBounds.j1 k (bt138.1.toList == ([] : List UInt8))))))))
def bywashlaw7_FrameBounds.j1 : Nat → Bool → Option (Bool)
  | 0, _ => none
  | k + 1, x6 => some x6
end
def bywashlaw7_FrameBounds.f (k : Nat) (a0 : Int) (a1 : Int) (a2 : Int) : Option (Bool) := (bywashlaw7_alive.f k).bind fun t136 => (if t136 = true then (if a0 ≥ 0 then (if a0 ≤ 255 then (if a1 ≥ 0 then (if a1 ≤ 255 then (if a2 ≥ 0 then (bywashlaw7_FrameBounds.j0 k (decide (a2 ≤ 2147483647)) a0 a1 a2 (⟨#[120]⟩ : ByteArray)) else (bywashlaw7_FrameBounds.j0 k false a0 a1 a2 (⟨#[120]⟩ : ByteArray))) else (bywashlaw7_FrameBounds.j0 k false a0 a1 a2 (⟨#[120]⟩ : ByteArray))) else (bywashlaw7_FrameBounds.j0 k false a0 a1 a2 (⟨#[120]⟩ : ByteArray))) else (bywashlaw7_FrameBounds.j0 k false a0 a1 a2 (⟨#[120]⟩ : ByteArray))) else (bywashlaw7_FrameBounds.j0 k false a0 a1 a2 (⟨#[120]⟩ : ByteArray))) else (some false))
theorem bywashlaw7_FrameBounds.mono_l : ∀ k, (∀ y0 y1 y2 y3 y4, LeO (bywashlaw7_FrameBounds.j0 k y0 y1 y2 y3 y4) (bywashlaw7_FrameBounds.j0 (k + 1) y0 y1 y2 y3 y4)) ∧ (∀ y0, LeO (bywashlaw7_FrameBounds.j1 k y0) (bywashlaw7_FrameBounds.j1 (k + 1) y0))
  | 0 => ⟨fun _ _ _ _ _ r h => by simp [bywashlaw7_FrameBounds.j0] at h, fun _ r h => by simp [bywashlaw7_FrameBounds.j1] at h⟩
  | k + 1 => by
    obtain ⟨ih0, ih1⟩ := bywashlaw7_FrameBounds.mono_l k
    refine ⟨?_, ?_⟩
    · intro y0 y1 y2 y3 y4
      unfold bywashlaw7_FrameBounds.j0
      repeat' first
      | (with_reducible exact ih0 _ _ _ _ _)
      | (with_reducible exact ih1 _)
      | (with_reducible exact bywashlaw7_alive.mono _)
      | (with_reducible exact frame_Put.mono _ _ _ _ _)
      | (with_reducible exact LeO.refl _)
      | (with_reducible exact LeO.none _)
      | (with_reducible refine LeO.ite ?_ ?_)
      | (with_reducible refine LeO.bind ?_ (fun _ => ?_))
      | exact ih0 _ _ _ _ _
      | exact ih1 _
      | exact bywashlaw7_alive.mono _
      | exact frame_Put.mono _ _ _ _ _
      | exact LeO.none _
      | refine LeO.ite ?_ ?_
      | refine LeO.bind ?_ (fun _ => ?_)
    · intro y0
      unfold bywashlaw7_FrameBounds.j1
      repeat' first
      | (with_reducible exact ih0 _ _ _ _ _)
      | (with_reducible exact ih1 _)
      | (with_reducible exact bywashlaw7_alive.mono _)
      | (with_reducible exact frame_Put.mono _ _ _ _ _)
      | (with_reducible exact LeO.refl _)
      | (with_reducible exact LeO.none _)
      | (with_reducible refine LeO.ite ?_ ?_)
      | (with_reducible refine LeO.bind ?_ (fun _ => ?_))
      | exact ih0 _ _ _ _ _
      | exact ih1 _
      | exact bywashlaw7_alive.mono _
      | exact frame_Put.mono _ _ _ _ _
      | exact LeO.none _
      | refine LeO.ite ?_ ?_
      | refine LeO.bind ?_ (fun _ => ?_)
theorem bywashlaw7_FrameBounds.mono : ∀ a0 a1 a2 k, LeO (bywashlaw7_FrameBounds.f k a0 a1 a2) (bywashlaw7_FrameBounds.f (k + 1) a0 a1 a2) := by
  intro a0 a1 a2 k
  obtain ⟨ih0, ih1⟩ := bywashlaw7_FrameBounds.mono_l k
  unfold bywashlaw7_FrameBounds.f
  repeat' first
      | (with_reducible exact ih0 _ _ _ _ _)
      | (with_reducible exact ih1 _)
      | (with_reducible exact bywashlaw7_alive.mono _)
      | (with_reducible exact frame_Put.mono _ _ _ _ _)
      | (with_reducible exact LeO.refl _)
      | (with_reducible exact LeO.none _)
      | (with_reducible refine LeO.ite ?_ ?_)
      | (with_reducible refine LeO.bind ?_ (fun _ => ?_))
      | exact ih0 _ _ _ _ _
      | exact ih1 _
      | exact bywashlaw7_alive.mono _
      | exact frame_Put.mono _ _ _ _ _
      | exact LeO.none _
      | refine LeO.ite ?_ ?_
      | refine LeO.bind ?_ (fun _ => ?_)
set_option maxHeartbeats 8000000 in
set_option maxRecDepth 100000 in
theorem bywashlaw7_FrameBounds.calls (k : Nat) (a0 : Int) (a1 : Int) (a2 : Int) (r : Bool) (w : World) (h : bywashlaw7_FrameBounds.f k a0 a1 a2 = some r) :
    Calls Try.prog 7 #[.int .i64 a0, .int .i64 a1, .int .i64 a2] w fun e w' => e = .returned (.bool r) ∧ Below w.heap.size w w' := by
  have hu23 := Try.underlying23
  have HB := Aside0.mk (Below.refl w.heap.size w)
  have H : ((bywashlaw7_alive.f k).bind fun t136 => (if t136 = true then (if a0 ≥ 0 then (if a0 ≤ 255 then (if a1 ≥ 0 then (if a1 ≤ 255 then (if a2 ≥ 0 then (bywashlaw7_FrameBounds.j0 k (decide (a2 ≤ 2147483647)) a0 a1 a2 (⟨#[120]⟩ : ByteArray)) else (bywashlaw7_FrameBounds.j0 k false a0 a1 a2 (⟨#[120]⟩ : ByteArray))) else (bywashlaw7_FrameBounds.j0 k false a0 a1 a2 (⟨#[120]⟩ : ByteArray))) else (bywashlaw7_FrameBounds.j0 k false a0 a1 a2 (⟨#[120]⟩ : ByteArray))) else (bywashlaw7_FrameBounds.j0 k false a0 a1 a2 (⟨#[120]⟩ : ByteArray))) else (bywashlaw7_FrameBounds.j0 k false a0 a1 a2 (⟨#[120]⟩ : ByteArray))) else (some false))) = some r := h
  clear h
  replace H := Option.bind_eq_some_iff.mp H
  obtain ⟨t136, A40, H⟩ := H
  replace H : (if t136 = true then (if a0 ≥ 0 then (if a0 ≤ 255 then (if a1 ≥ 0 then (if a1 ≤ 255 then (if a2 ≥ 0 then (bywashlaw7_FrameBounds.j0 k (decide (a2 ≤ 2147483647)) a0 a1 a2 (⟨#[120]⟩ : ByteArray)) else (bywashlaw7_FrameBounds.j0 k false a0 a1 a2 (⟨#[120]⟩ : ByteArray))) else (bywashlaw7_FrameBounds.j0 k false a0 a1 a2 (⟨#[120]⟩ : ByteArray))) else (bywashlaw7_FrameBounds.j0 k false a0 a1 a2 (⟨#[120]⟩ : ByteArray))) else (bywashlaw7_FrameBounds.j0 k false a0 a1 a2 (⟨#[120]⟩ : ByteArray))) else (bywashlaw7_FrameBounds.j0 k false a0 a1 a2 (⟨#[120]⟩ : ByteArray))) else (some false)) = some r := H
  have A4 := Aside0.mk A40
  clear A40
  by_cases c5 : t136 = true
  · subst c5
    have H1 : (if a0 ≥ 0 then (if a0 ≤ 255 then (if a1 ≥ 0 then (if a1 ≤ 255 then (if a2 ≥ 0 then (bywashlaw7_FrameBounds.j0 k (decide (a2 ≤ 2147483647)) a0 a1 a2 (⟨#[120]⟩ : ByteArray)) else (bywashlaw7_FrameBounds.j0 k false a0 a1 a2 (⟨#[120]⟩ : ByteArray))) else (bywashlaw7_FrameBounds.j0 k false a0 a1 a2 (⟨#[120]⟩ : ByteArray))) else (bywashlaw7_FrameBounds.j0 k false a0 a1 a2 (⟨#[120]⟩ : ByteArray))) else (bywashlaw7_FrameBounds.j0 k false a0 a1 a2 (⟨#[120]⟩ : ByteArray))) else (bywashlaw7_FrameBounds.j0 k false a0 a1 a2 (⟨#[120]⟩ : ByteArray))) = some r := by rw [if_pos rfl] at H; exact H
    clear H
    have H := H1
    clear H1
    have HC6 := Aside0.mk H
    clear H
    go_enter Try.func7, Try.ntmps7
    go_upto_region 4 with (first | ((with_reducible refine gate_callee (f := 9) rfl ?_); refine goesL_ (some 11) rfl rfl Try.func9 (by kernel_rfl) rfl #[] rfl (by (try simp only [List.map_toArray, List.map_cons, List.map_nil]); first | done | rfl | (simp only [List.length_drop, List.length_take]; rfl)) ?_; (with_reducible refine (bywashlaw7_alive.calls k  true _ A4.out).mono ?_); rintro e w7 ⟨rfl, hb⟩; refine ⟨_, rfl, ?_⟩; have n0_ := Aside0.mk (below_step (by repeat (first | (with_reducible first | exact HB.out | apply below_alloc | apply pw_below_drewN | apply below_drew1) | exact HB.out)) hb); clear HB; have HB := n0_; clear n0_; (try clear hb); (try clear hb2); (try clear hk); (try clear hi)) | ((with_reducible refine gate_dst (N := 7) rfl ?_); (try (refine gate_guard (by rfl) ?_; dsimp only)); refine box_event ?hg (N := 7) ?hd (cs := #[.int .i64 0, .int .i64 0, .int .i64 0, .string (⟨#[]⟩ : ByteArray)]) (t := 23) ?hr ?_; (case hd => rfl); (case hg => rfl); (case hr => first | (go_simp; done) | (go_simp; rfl)); intro gb137 hg w8 hbox hb; have n0_ := Aside0.mk (below_step (by repeat (first | (with_reducible first | exact HB.out | apply below_alloc | apply pw_below_drewN | apply below_drew1) | exact HB.out)) hb); have n1_ := Aside0.mk (hbox); have n2_ := Aside0.mk ((by rw [hg]; exact (below_size (by repeat (first | (with_reducible first | exact HB.out | apply below_alloc | apply pw_below_drewN | apply below_drew1) | exact HB.out))) : w.heap.size ≤ gb137)); have n3_ := Aside0.mk ((by rw [hg]; exact (below_size (by repeat (first | (with_reducible first | exact HB.out | apply below_alloc | apply pw_below_drewN | apply below_drew1) | exact HB.out))) : w.heap.size ≤ gb137)); clear HB; have HB := n0_; have BK137 := n1_; have GW137 := n2_; have GE137 := n3_; clear n0_ n1_ n2_ n3_; clear hb hbox hg; have hcz9_0 : w8.cell? ⟨gb137, 0, none⟩ = some (.int .i64 0) := (blk_cell BK137.out 0).trans rfl; have hcz9_1 : w8.cell? ⟨gb137, 1, none⟩ = some (.int .i64 0) := (blk_cell BK137.out 1).trans rfl; have hcz9_2 : w8.cell? ⟨gb137, 2, none⟩ = some (.int .i64 0) := (blk_cell BK137.out 2).trans rfl; have hcz9_3 : w8.cell? ⟨gb137, 3, none⟩ = some (.string (⟨#[]⟩ : ByteArray)) := (blk_cell BK137.out 3).trans rfl; have hfz9_0 := blk_frozen BK137.out 0; have hfz9_1 := blk_frozen BK137.out 1; have hfz9_2 := blk_frozen BK137.out 2; have hfz9_3 := blk_frozen BK137.out 3))
    (try simp only [Act.put, List.setIfInBounds_toArray, List.set_cons_zero, List.set_cons_succ])
    go_cut [8] (fun v8 wc => ∃ (kq : Nat) (x8_5 : Bool), v8 = .bool x8_5 ∧ Aside0 (bywashlaw7_FrameBounds.j0 kq x8_5 a0 a1 a2 (⟨#[120]⟩ : ByteArray) = some r) ∧ Aside0 (kq ≤ k) ∧ Aside0 (wc.heap[gb137]? = some (.cells #[.int .i64 a0, .int .i64 a1, .int .i64 a2, .string (⟨#[120]⟩ : ByteArray)] 23 (0, 0))) ∧ Aside0 (Below w.heap.size w wc))
    case first =>
      have H := HC6.out
      clear HC6
      by_cases c10 : a0 ≥ 0
      · rw [if_pos c10] at H
        have c10b0 : decide (0 ≤ a0) = true := decide_eq_true c10
        clear c10
        (first | rw [c10b0] | (simp only [i64_w, i32_w]; rw [c10b0]) | skip)
        by_cases c11 : a0 ≤ 255
        · rw [if_pos c11] at H
          have c11b0 : decide (a0 ≤ 255) = true := decide_eq_true c11
          clear c11
          by_cases c12 : a1 ≥ 0
          · rw [if_pos c12] at H
            have c12b0 : decide (0 ≤ a1) = true := decide_eq_true c12
            clear c12
            by_cases c13 : a1 ≤ 255
            · rw [if_pos c13] at H
              have c13b0 : decide (a1 ≤ 255) = true := decide_eq_true c13
              clear c13
              by_cases c14 : a2 ≥ 0
              · rw [if_pos c14] at H
                have c14b0 : decide (0 ≤ a2) = true := decide_eq_true c14
                clear c14
                have H' := Aside0.mk H
                clear H
                go_wp2
                go_meet
                case rel => exact ⟨_, (decide (a2 ≤ 2147483647)), (by first | rfl | (simp; done) | (simp [*]; done)), H', ⟨by first | omega | exact Nat.le_refl _⟩, ⟨by (with_reducible repeat (first | refine blk_drewN ?_ _ | refine blk_drew ?_ | refine blk_alloc ?_ _)); refine blk_put (cs := #[.int .i64 a0, .int .i64 a1, .int .i64 a2, .string (⟨#[]⟩ : ByteArray)]) ?_ 3 _ rfl; (with_reducible repeat (first | refine blk_drewN ?_ _ | refine blk_drew ?_ | refine blk_alloc ?_ _)); refine blk_put (cs := #[.int .i64 a0, .int .i64 a1, .int .i64 0, .string (⟨#[]⟩ : ByteArray)]) ?_ 2 _ rfl; (with_reducible repeat (first | refine blk_drewN ?_ _ | refine blk_drew ?_ | refine blk_alloc ?_ _)); refine blk_put (cs := #[.int .i64 a0, .int .i64 0, .int .i64 0, .string (⟨#[]⟩ : ByteArray)]) ?_ 1 _ rfl; (with_reducible repeat (first | refine blk_drewN ?_ _ | refine blk_drew ?_ | refine blk_alloc ?_ _)); refine blk_put (cs := #[.int .i64 0, .int .i64 0, .int .i64 0, .string (⟨#[]⟩ : ByteArray)]) ?_ 0 _ rfl; (with_reducible repeat (first | refine blk_drewN ?_ _ | refine blk_drew ?_ | refine blk_alloc ?_ _)); exact BK137.out⟩, ⟨by repeat (first | (with_reducible first | exact HB.out | apply below_alloc | apply pw_below_drewN | apply below_drew1 | refine below_set ?_ GE137.out) | exact HB.out)⟩⟩
              · rw [if_neg c14] at H
                have c14b0 : decide (0 ≤ a2) = false := decide_eq_false c14
                clear c14
                have H' := Aside0.mk H
                clear H
                go_wp2
                go_meet
                case rel => exact ⟨_, (false), (by first | rfl | (simp; done) | (simp [*]; done)), H', ⟨by first | omega | exact Nat.le_refl _⟩, ⟨by (with_reducible repeat (first | refine blk_drewN ?_ _ | refine blk_drew ?_ | refine blk_alloc ?_ _)); refine blk_put (cs := #[.int .i64 a0, .int .i64 a1, .int .i64 a2, .string (⟨#[]⟩ : ByteArray)]) ?_ 3 _ rfl; (with_reducible repeat (first | refine blk_drewN ?_ _ | refine blk_drew ?_ | refine blk_alloc ?_ _)); refine blk_put (cs := #[.int .i64 a0, .int .i64 a1, .int .i64 0, .string (⟨#[]⟩ : ByteArray)]) ?_ 2 _ rfl; (with_reducible repeat (first | refine blk_drewN ?_ _ | refine blk_drew ?_ | refine blk_alloc ?_ _)); refine blk_put (cs := #[.int .i64 a0, .int .i64 0, .int .i64 0, .string (⟨#[]⟩ : ByteArray)]) ?_ 1 _ rfl; (with_reducible repeat (first | refine blk_drewN ?_ _ | refine blk_drew ?_ | refine blk_alloc ?_ _)); refine blk_put (cs := #[.int .i64 0, .int .i64 0, .int .i64 0, .string (⟨#[]⟩ : ByteArray)]) ?_ 0 _ rfl; (with_reducible repeat (first | refine blk_drewN ?_ _ | refine blk_drew ?_ | refine blk_alloc ?_ _)); exact BK137.out⟩, ⟨by repeat (first | (with_reducible first | exact HB.out | apply below_alloc | apply pw_below_drewN | apply below_drew1 | refine below_set ?_ GE137.out) | exact HB.out)⟩⟩
            · rw [if_neg c13] at H
              have c13b0 : decide (a1 ≤ 255) = false := decide_eq_false c13
              clear c13
              have H' := Aside0.mk H
              clear H
              go_wp2
              go_meet
              case rel => exact ⟨_, (false), (by first | rfl | (simp; done) | (simp [*]; done)), H', ⟨by first | omega | exact Nat.le_refl _⟩, ⟨by (with_reducible repeat (first | refine blk_drewN ?_ _ | refine blk_drew ?_ | refine blk_alloc ?_ _)); refine blk_put (cs := #[.int .i64 a0, .int .i64 a1, .int .i64 a2, .string (⟨#[]⟩ : ByteArray)]) ?_ 3 _ rfl; (with_reducible repeat (first | refine blk_drewN ?_ _ | refine blk_drew ?_ | refine blk_alloc ?_ _)); refine blk_put (cs := #[.int .i64 a0, .int .i64 a1, .int .i64 0, .string (⟨#[]⟩ : ByteArray)]) ?_ 2 _ rfl; (with_reducible repeat (first | refine blk_drewN ?_ _ | refine blk_drew ?_ | refine blk_alloc ?_ _)); refine blk_put (cs := #[.int .i64 a0, .int .i64 0, .int .i64 0, .string (⟨#[]⟩ : ByteArray)]) ?_ 1 _ rfl; (with_reducible repeat (first | refine blk_drewN ?_ _ | refine blk_drew ?_ | refine blk_alloc ?_ _)); refine blk_put (cs := #[.int .i64 0, .int .i64 0, .int .i64 0, .string (⟨#[]⟩ : ByteArray)]) ?_ 0 _ rfl; (with_reducible repeat (first | refine blk_drewN ?_ _ | refine blk_drew ?_ | refine blk_alloc ?_ _)); exact BK137.out⟩, ⟨by repeat (first | (with_reducible first | exact HB.out | apply below_alloc | apply pw_below_drewN | apply below_drew1 | refine below_set ?_ GE137.out) | exact HB.out)⟩⟩
          · rw [if_neg c12] at H
            have c12b0 : decide (0 ≤ a1) = false := decide_eq_false c12
            clear c12
            have H' := Aside0.mk H
            clear H
            go_wp2
            go_meet
            case rel => exact ⟨_, (false), (by first | rfl | (simp; done) | (simp [*]; done)), H', ⟨by first | omega | exact Nat.le_refl _⟩, ⟨by (with_reducible repeat (first | refine blk_drewN ?_ _ | refine blk_drew ?_ | refine blk_alloc ?_ _)); refine blk_put (cs := #[.int .i64 a0, .int .i64 a1, .int .i64 a2, .string (⟨#[]⟩ : ByteArray)]) ?_ 3 _ rfl; (with_reducible repeat (first | refine blk_drewN ?_ _ | refine blk_drew ?_ | refine blk_alloc ?_ _)); refine blk_put (cs := #[.int .i64 a0, .int .i64 a1, .int .i64 0, .string (⟨#[]⟩ : ByteArray)]) ?_ 2 _ rfl; (with_reducible repeat (first | refine blk_drewN ?_ _ | refine blk_drew ?_ | refine blk_alloc ?_ _)); refine blk_put (cs := #[.int .i64 a0, .int .i64 0, .int .i64 0, .string (⟨#[]⟩ : ByteArray)]) ?_ 1 _ rfl; (with_reducible repeat (first | refine blk_drewN ?_ _ | refine blk_drew ?_ | refine blk_alloc ?_ _)); refine blk_put (cs := #[.int .i64 0, .int .i64 0, .int .i64 0, .string (⟨#[]⟩ : ByteArray)]) ?_ 0 _ rfl; (with_reducible repeat (first | refine blk_drewN ?_ _ | refine blk_drew ?_ | refine blk_alloc ?_ _)); exact BK137.out⟩, ⟨by repeat (first | (with_reducible first | exact HB.out | apply below_alloc | apply pw_below_drewN | apply below_drew1 | refine below_set ?_ GE137.out) | exact HB.out)⟩⟩
        · rw [if_neg c11] at H
          have c11b0 : decide (a0 ≤ 255) = false := decide_eq_false c11
          clear c11
          have H' := Aside0.mk H
          clear H
          go_wp2
          go_meet
          case rel => exact ⟨_, (false), (by first | rfl | (simp; done) | (simp [*]; done)), H', ⟨by first | omega | exact Nat.le_refl _⟩, ⟨by (with_reducible repeat (first | refine blk_drewN ?_ _ | refine blk_drew ?_ | refine blk_alloc ?_ _)); refine blk_put (cs := #[.int .i64 a0, .int .i64 a1, .int .i64 a2, .string (⟨#[]⟩ : ByteArray)]) ?_ 3 _ rfl; (with_reducible repeat (first | refine blk_drewN ?_ _ | refine blk_drew ?_ | refine blk_alloc ?_ _)); refine blk_put (cs := #[.int .i64 a0, .int .i64 a1, .int .i64 0, .string (⟨#[]⟩ : ByteArray)]) ?_ 2 _ rfl; (with_reducible repeat (first | refine blk_drewN ?_ _ | refine blk_drew ?_ | refine blk_alloc ?_ _)); refine blk_put (cs := #[.int .i64 a0, .int .i64 0, .int .i64 0, .string (⟨#[]⟩ : ByteArray)]) ?_ 1 _ rfl; (with_reducible repeat (first | refine blk_drewN ?_ _ | refine blk_drew ?_ | refine blk_alloc ?_ _)); refine blk_put (cs := #[.int .i64 0, .int .i64 0, .int .i64 0, .string (⟨#[]⟩ : ByteArray)]) ?_ 0 _ rfl; (with_reducible repeat (first | refine blk_drewN ?_ _ | refine blk_drew ?_ | refine blk_alloc ?_ _)); exact BK137.out⟩, ⟨by repeat (first | (with_reducible first | exact HB.out | apply below_alloc | apply pw_below_drewN | apply below_drew1 | refine below_set ?_ GE137.out) | exact HB.out)⟩⟩
      · rw [if_neg c10] at H
        have c10b0 : decide (0 ≤ a0) = false := decide_eq_false c10
        clear c10
        (first | rw [c10b0] | (simp only [i64_w, i32_w]; rw [c10b0]) | skip)
        have H' := Aside0.mk H
        clear H
        go_wp2
        go_meet
        case rel => exact ⟨_, (false), (by first | rfl | (simp; done) | (simp [*]; done)), H', ⟨by first | omega | exact Nat.le_refl _⟩, ⟨by (with_reducible repeat (first | refine blk_drewN ?_ _ | refine blk_drew ?_ | refine blk_alloc ?_ _)); refine blk_put (cs := #[.int .i64 a0, .int .i64 a1, .int .i64 a2, .string (⟨#[]⟩ : ByteArray)]) ?_ 3 _ rfl; (with_reducible repeat (first | refine blk_drewN ?_ _ | refine blk_drew ?_ | refine blk_alloc ?_ _)); refine blk_put (cs := #[.int .i64 a0, .int .i64 a1, .int .i64 0, .string (⟨#[]⟩ : ByteArray)]) ?_ 2 _ rfl; (with_reducible repeat (first | refine blk_drewN ?_ _ | refine blk_drew ?_ | refine blk_alloc ?_ _)); refine blk_put (cs := #[.int .i64 a0, .int .i64 0, .int .i64 0, .string (⟨#[]⟩ : ByteArray)]) ?_ 1 _ rfl; (with_reducible repeat (first | refine blk_drewN ?_ _ | refine blk_drew ?_ | refine blk_alloc ?_ _)); refine blk_put (cs := #[.int .i64 0, .int .i64 0, .int .i64 0, .string (⟨#[]⟩ : ByteArray)]) ?_ 0 _ rfl; (with_reducible repeat (first | refine blk_drewN ?_ _ | refine blk_drew ?_ | refine blk_alloc ?_ _)); exact BK137.out⟩, ⟨by repeat (first | (with_reducible first | exact HB.out | apply below_alloc | apply pw_below_drewN | apply below_drew1 | refine below_set ?_ GE137.out) | exact HB.out)⟩⟩
    case rest =>
      clear HC6
      try clear c1
      try clear p2
      try clear c5
      try clear c7
      try clear c9
      try clear c10
      try clear c10b0
      try clear c11
      try clear c11b0
      try clear c12
      try clear c12b0
      try clear c13
      try clear c13b0
      try clear c14
      try clear c14b0
      try clear hcz9_0
      try clear hcz9_1
      try clear hcz9_2
      try clear hcz9_3
      try clear hfz9_0
      try clear hfz9_1
      try clear hfz9_2
      try clear hfz9_3
      obtain ⟨kq, x8_5, rfl, HA, HJ5, BK137, HB⟩ := hcut
      cases kq with
      | zero => exact absurd HA.out (by simp [bywashlaw7_FrameBounds.j0])
      | succ kj5 =>
        have H := HA.out
        clear HA
        simp only [bywashlaw7_FrameBounds.j0] at H
        replace H := Option.bind_eq_some_iff.mp H
        obtain ⟨⟨t138, t139⟩, A150, H⟩ := H
        replace H : ((frame_Right.f a0 a1 a2 (⟨#[120]⟩ : ByteArray)).bind fun t140 => (if t140 = true then (if x8_5 = true then (if t139 = true then (if (t138.size : Int) = 10 then (bywashlaw7_FrameBounds.j1 kj5 true) else (bywashlaw7_FrameBounds.j1 kj5 false)) else (bywashlaw7_FrameBounds.j1 kj5 false)) else (bywashlaw7_FrameBounds.j1 kj5 false)) else (if x8_5 = true then (bywashlaw7_FrameBounds.j1 kj5 false) else (if t139 = true then (bywashlaw7_FrameBounds.j1 kj5 false) else (if (t138.size : Int) = 10 then (bywashlaw7_FrameBounds.j1 kj5 false) else (bywashlaw7_FrameBounds.j1 kj5 (t138.toList == ([] : List UInt8)))))))) = some r := H
        have A15 := Aside0.mk A150
        clear A150
        have HC16 := Aside0.mk H
        clear H
        have hcz17_0 : wc.cell? ⟨gb137, 0, none⟩ = some (.int .i64 a0) := (blk_cell BK137.out 0).trans rfl
        have hcz17_1 : wc.cell? ⟨gb137, 1, none⟩ = some (.int .i64 a1) := (blk_cell BK137.out 1).trans rfl
        have hcz17_2 : wc.cell? ⟨gb137, 2, none⟩ = some (.int .i64 a2) := (blk_cell BK137.out 2).trans rfl
        have hcz17_3 : wc.cell? ⟨gb137, 3, none⟩ = some (.string (⟨#[120]⟩ : ByteArray)) := (blk_cell BK137.out 3).trans rfl
        have hfz17_0 := blk_frozen BK137.out 0
        have hfz17_1 := blk_frozen BK137.out 1
        have hfz17_2 := blk_frozen BK137.out 2
        have hfz17_3 := blk_frozen BK137.out 3
        go_upto_region 6 with (first | ((with_reducible refine gate_callee (f := 10) rfl ?_); refine goesL_ (some 41) rfl rfl Try.func10 (by kernel_rfl) rfl #[.agg #[.int .i64 a0, .int .i64 a1, .int .i64 a2, .string (⟨#[120]⟩ : ByteArray)]] rfl (by (try simp only [List.map_toArray, List.map_cons, List.map_nil]); first | done | rfl | (simp only [List.length_drop, List.length_take]; rfl)) ?_; (with_reducible refine (frame_Put.calls kj5 a0 a1 a2 (⟨#[120]⟩ : ByteArray) t138 t139 _ A15.out).mono ?_); rintro e w18 ⟨rfl, hb⟩; refine ⟨_, rfl, ?_⟩; have n0_ := Aside0.mk (blk_below (g := gb137) (o := .cells #[.int .i64 a0, .int .i64 a1, .int .i64 a2, .string (⟨#[120]⟩ : ByteArray)] 23 (0, 0)) (by (with_reducible repeat (first | refine blk_drewN ?_ _ | refine blk_drew ?_ | refine blk_alloc ?_ _)); exact BK137.out) hb); have n1_ := Aside0.mk (below_step (by repeat (first | (with_reducible first | exact HB.out | apply below_alloc | apply pw_below_drewN | apply below_drew1 | refine below_set ?_ GE137.out) | exact HB.out)) hb); clear BK137; clear HB; have BK137 := n0_; have HB := n1_; clear n0_ n1_; (try clear hb); (try clear hb2); (try clear hk); (try clear hi)))
        (try simp only [Act.put, List.setIfInBounds_toArray, List.set_cons_zero, List.set_cons_succ])
        go_cut [6] (fun v6 wc => ∃ (kq : Nat) (x6_15 : Bool), v6 = .bool x6_15 ∧ Aside0 (bywashlaw7_FrameBounds.j1 kq x6_15 = some r) ∧ Aside0 (kq ≤ kj5) ∧ Aside0 (wc.heap[gb137]? = some (.cells #[.int .i64 a0, .int .i64 a1, .int .i64 a2, .string (⟨#[120]⟩ : ByteArray)] 23 (0, 0))) ∧ Aside0 (Below w.heap.size w wc))
        case first =>
          have H := HC16.out
          clear HC16
          replace H := Option.bind_eq_some_iff.mp H
          obtain ⟨t140, A190, H⟩ := H
          replace H : (if t140 = true then (if x8_5 = true then (if t139 = true then (if (t138.size : Int) = 10 then (bywashlaw7_FrameBounds.j1 kj5 true) else (bywashlaw7_FrameBounds.j1 kj5 false)) else (bywashlaw7_FrameBounds.j1 kj5 false)) else (bywashlaw7_FrameBounds.j1 kj5 false)) else (if x8_5 = true then (bywashlaw7_FrameBounds.j1 kj5 false) else (if t139 = true then (bywashlaw7_FrameBounds.j1 kj5 false) else (if (t138.size : Int) = 10 then (bywashlaw7_FrameBounds.j1 kj5 false) else (bywashlaw7_FrameBounds.j1 kj5 (t138.toList == ([] : List UInt8))))))) = some r := H
          have A19 := Aside0.mk A190
          clear A190
          by_cases c20 : t140 = true
          · subst c20
            have H1 : (if x8_5 = true then (if t139 = true then (if (t138.size : Int) = 10 then (bywashlaw7_FrameBounds.j1 kj5 true) else (bywashlaw7_FrameBounds.j1 kj5 false)) else (bywashlaw7_FrameBounds.j1 kj5 false)) else (bywashlaw7_FrameBounds.j1 kj5 false)) = some r := by rw [if_pos rfl] at H; exact H
            clear H
            have H := H1
            clear H1
            by_cases c21 : x8_5 = true
            · subst c21
              have H1 : (if t139 = true then (if (t138.size : Int) = 10 then (bywashlaw7_FrameBounds.j1 kj5 true) else (bywashlaw7_FrameBounds.j1 kj5 false)) else (bywashlaw7_FrameBounds.j1 kj5 false)) = some r := by rw [if_pos rfl] at H; exact H
              clear H
              have H := H1
              clear H1
              by_cases c22 : t139 = true
              · subst c22
                have H1 : (if (t138.size : Int) = 10 then (bywashlaw7_FrameBounds.j1 kj5 true) else (bywashlaw7_FrameBounds.j1 kj5 false)) = some r := by rw [if_pos rfl] at H; exact H
                clear H
                have H := H1
                clear H1
                by_cases c23 : (t138.size : Int) = 10
                · rw [if_pos c23] at H
                  have c23b0 : ((t138.size : Int) == 10) = true := beq_iff_eq.mpr c23
                  have c23b1 : ((t138.size : Int) != 10) = false := bne_eq_false_iff_eq.mpr c23
                  clear c23
                  (first | rw [c23b0] | (simp only [i64_w, i32_w]; rw [c23b0]) | skip)
                  have H' := Aside0.mk H
                  clear H
                  have hcz24_0 : w18.cell? ⟨gb137, 0, none⟩ = some (.int .i64 a0) := (blk_cell BK137.out 0).trans rfl
                  have hcz24_1 : w18.cell? ⟨gb137, 1, none⟩ = some (.int .i64 a1) := (blk_cell BK137.out 1).trans rfl
                  have hcz24_2 : w18.cell? ⟨gb137, 2, none⟩ = some (.int .i64 a2) := (blk_cell BK137.out 2).trans rfl
                  have hcz24_3 : w18.cell? ⟨gb137, 3, none⟩ = some (.string (⟨#[120]⟩ : ByteArray)) := (blk_cell BK137.out 3).trans rfl
                  have hfz24_0 := blk_frozen BK137.out 0
                  have hfz24_1 := blk_frozen BK137.out 1
                  have hfz24_2 := blk_frozen BK137.out 2
                  have hfz24_3 := blk_frozen BK137.out 3
                  go_wp2_with (first | ((with_reducible refine gate_callee (f := 16) rfl ?_); refine goesL_ (some 45) rfl rfl Try.func16 (by kernel_rfl) rfl #[.agg #[.int .i64 a0, .int .i64 a1, .int .i64 a2, .string (⟨#[120]⟩ : ByteArray)]] rfl (by (try simp only [List.map_toArray, List.map_cons, List.map_nil]); first | done | rfl | (simp only [List.length_drop, List.length_take]; rfl)) ?_; (with_reducible refine (frame_Right.calls a0 a1 a2 (⟨#[120]⟩ : ByteArray) true _ A19.out).mono ?_); rintro e w25 ⟨rfl, hb⟩; refine ⟨_, rfl, ?_⟩; have n0_ := Aside0.mk (blk_below (g := gb137) (o := .cells #[.int .i64 a0, .int .i64 a1, .int .i64 a2, .string (⟨#[120]⟩ : ByteArray)] 23 (0, 0)) (by (with_reducible repeat (first | refine blk_drewN ?_ _ | refine blk_drew ?_ | refine blk_alloc ?_ _)); exact BK137.out) hb); have n1_ := Aside0.mk (below_step (by repeat (first | (with_reducible first | exact HB.out | apply below_alloc | apply pw_below_drewN | apply below_drew1 | refine below_set ?_ GE137.out) | exact HB.out)) hb); clear BK137; clear HB; have BK137 := n0_; have HB := n1_; clear n0_ n1_; (try clear hb); (try clear hb2); (try clear hk); (try clear hi)))
                  go_meet
                  case rel => exact ⟨_, (true), (by first | rfl | (simp; done) | (simp [*]; done)), H', ⟨by have := HJ5.out; first | omega | exact Nat.le_refl _⟩, ⟨by (with_reducible repeat (first | refine blk_drewN ?_ _ | refine blk_drew ?_ | refine blk_alloc ?_ _)); exact BK137.out⟩, ⟨by repeat (first | (with_reducible first | exact HB.out | apply below_alloc | apply pw_below_drewN | apply below_drew1 | refine below_set ?_ GE137.out) | exact HB.out)⟩⟩
                · rw [if_neg c23] at H
                  have c23b0 : ((t138.size : Int) == 10) = false := beq_eq_false_iff_ne.mpr c23
                  have c23b1 : ((t138.size : Int) != 10) = true := bne_iff_ne.mpr c23
                  (first | rw [c23b0] | (simp only [i64_w, i32_w]; rw [c23b0]) | skip)
                  have H' := Aside0.mk H
                  clear H
                  have hcz26_0 : w18.cell? ⟨gb137, 0, none⟩ = some (.int .i64 a0) := (blk_cell BK137.out 0).trans rfl
                  have hcz26_1 : w18.cell? ⟨gb137, 1, none⟩ = some (.int .i64 a1) := (blk_cell BK137.out 1).trans rfl
                  have hcz26_2 : w18.cell? ⟨gb137, 2, none⟩ = some (.int .i64 a2) := (blk_cell BK137.out 2).trans rfl
                  have hcz26_3 : w18.cell? ⟨gb137, 3, none⟩ = some (.string (⟨#[120]⟩ : ByteArray)) := (blk_cell BK137.out 3).trans rfl
                  have hfz26_0 := blk_frozen BK137.out 0
                  have hfz26_1 := blk_frozen BK137.out 1
                  have hfz26_2 := blk_frozen BK137.out 2
                  have hfz26_3 := blk_frozen BK137.out 3
                  go_wp2_with (first | ((with_reducible refine gate_callee (f := 16) rfl ?_); refine goesL_ (some 45) rfl rfl Try.func16 (by kernel_rfl) rfl #[.agg #[.int .i64 a0, .int .i64 a1, .int .i64 a2, .string (⟨#[120]⟩ : ByteArray)]] rfl (by (try simp only [List.map_toArray, List.map_cons, List.map_nil]); first | done | rfl | (simp only [List.length_drop, List.length_take]; rfl)) ?_; (with_reducible refine (frame_Right.calls a0 a1 a2 (⟨#[120]⟩ : ByteArray) true _ A19.out).mono ?_); rintro e w27 ⟨rfl, hb⟩; refine ⟨_, rfl, ?_⟩; have n0_ := Aside0.mk (blk_below (g := gb137) (o := .cells #[.int .i64 a0, .int .i64 a1, .int .i64 a2, .string (⟨#[120]⟩ : ByteArray)] 23 (0, 0)) (by (with_reducible repeat (first | refine blk_drewN ?_ _ | refine blk_drew ?_ | refine blk_alloc ?_ _)); exact BK137.out) hb); have n1_ := Aside0.mk (below_step (by repeat (first | (with_reducible first | exact HB.out | apply below_alloc | apply pw_below_drewN | apply below_drew1 | refine below_set ?_ GE137.out) | exact HB.out)) hb); clear BK137; clear HB; have BK137 := n0_; have HB := n1_; clear n0_ n1_; (try clear hb); (try clear hb2); (try clear hk); (try clear hi)))
                  go_meet
                  case rel => exact ⟨_, (false), (by first | rfl | (simp; done) | (simp [*]; done)), H', ⟨by have := HJ5.out; first | omega | exact Nat.le_refl _⟩, ⟨by (with_reducible repeat (first | refine blk_drewN ?_ _ | refine blk_drew ?_ | refine blk_alloc ?_ _)); exact BK137.out⟩, ⟨by repeat (first | (with_reducible first | exact HB.out | apply below_alloc | apply pw_below_drewN | apply below_drew1 | refine below_set ?_ GE137.out) | exact HB.out)⟩⟩
              · replace c22 := Bool.eq_false_iff.mpr c22
                subst c22
                have H1 : (bywashlaw7_FrameBounds.j1 kj5 false) = some r := by rw [if_neg (show ¬ (false = true) by decide)] at H; exact H
                clear H
                have H := H1
                clear H1
                have H' := Aside0.mk H
                clear H
                have hcz28_0 : w18.cell? ⟨gb137, 0, none⟩ = some (.int .i64 a0) := (blk_cell BK137.out 0).trans rfl
                have hcz28_1 : w18.cell? ⟨gb137, 1, none⟩ = some (.int .i64 a1) := (blk_cell BK137.out 1).trans rfl
                have hcz28_2 : w18.cell? ⟨gb137, 2, none⟩ = some (.int .i64 a2) := (blk_cell BK137.out 2).trans rfl
                have hcz28_3 : w18.cell? ⟨gb137, 3, none⟩ = some (.string (⟨#[120]⟩ : ByteArray)) := (blk_cell BK137.out 3).trans rfl
                have hfz28_0 := blk_frozen BK137.out 0
                have hfz28_1 := blk_frozen BK137.out 1
                have hfz28_2 := blk_frozen BK137.out 2
                have hfz28_3 := blk_frozen BK137.out 3
                go_wp2_with (first | ((with_reducible refine gate_callee (f := 16) rfl ?_); refine goesL_ (some 45) rfl rfl Try.func16 (by kernel_rfl) rfl #[.agg #[.int .i64 a0, .int .i64 a1, .int .i64 a2, .string (⟨#[120]⟩ : ByteArray)]] rfl (by (try simp only [List.map_toArray, List.map_cons, List.map_nil]); first | done | rfl | (simp only [List.length_drop, List.length_take]; rfl)) ?_; (with_reducible refine (frame_Right.calls a0 a1 a2 (⟨#[120]⟩ : ByteArray) true _ A19.out).mono ?_); rintro e w29 ⟨rfl, hb⟩; refine ⟨_, rfl, ?_⟩; have n0_ := Aside0.mk (blk_below (g := gb137) (o := .cells #[.int .i64 a0, .int .i64 a1, .int .i64 a2, .string (⟨#[120]⟩ : ByteArray)] 23 (0, 0)) (by (with_reducible repeat (first | refine blk_drewN ?_ _ | refine blk_drew ?_ | refine blk_alloc ?_ _)); exact BK137.out) hb); have n1_ := Aside0.mk (below_step (by repeat (first | (with_reducible first | exact HB.out | apply below_alloc | apply pw_below_drewN | apply below_drew1 | refine below_set ?_ GE137.out) | exact HB.out)) hb); clear BK137; clear HB; have BK137 := n0_; have HB := n1_; clear n0_ n1_; (try clear hb); (try clear hb2); (try clear hk); (try clear hi)))
                go_meet
                case rel => exact ⟨_, (false), (by first | rfl | (simp; done) | (simp [*]; done)), H', ⟨by have := HJ5.out; first | omega | exact Nat.le_refl _⟩, ⟨by (with_reducible repeat (first | refine blk_drewN ?_ _ | refine blk_drew ?_ | refine blk_alloc ?_ _)); exact BK137.out⟩, ⟨by repeat (first | (with_reducible first | exact HB.out | apply below_alloc | apply pw_below_drewN | apply below_drew1 | refine below_set ?_ GE137.out) | exact HB.out)⟩⟩
            · replace c21 := Bool.eq_false_iff.mpr c21
              subst c21
              have H1 : (bywashlaw7_FrameBounds.j1 kj5 false) = some r := by rw [if_neg (show ¬ (false = true) by decide)] at H; exact H
              clear H
              have H := H1
              clear H1
              have H' := Aside0.mk H
              clear H
              have hcz30_0 : w18.cell? ⟨gb137, 0, none⟩ = some (.int .i64 a0) := (blk_cell BK137.out 0).trans rfl
              have hcz30_1 : w18.cell? ⟨gb137, 1, none⟩ = some (.int .i64 a1) := (blk_cell BK137.out 1).trans rfl
              have hcz30_2 : w18.cell? ⟨gb137, 2, none⟩ = some (.int .i64 a2) := (blk_cell BK137.out 2).trans rfl
              have hcz30_3 : w18.cell? ⟨gb137, 3, none⟩ = some (.string (⟨#[120]⟩ : ByteArray)) := (blk_cell BK137.out 3).trans rfl
              have hfz30_0 := blk_frozen BK137.out 0
              have hfz30_1 := blk_frozen BK137.out 1
              have hfz30_2 := blk_frozen BK137.out 2
              have hfz30_3 := blk_frozen BK137.out 3
              go_wp2_with (first | ((with_reducible refine gate_callee (f := 16) rfl ?_); refine goesL_ (some 45) rfl rfl Try.func16 (by kernel_rfl) rfl #[.agg #[.int .i64 a0, .int .i64 a1, .int .i64 a2, .string (⟨#[120]⟩ : ByteArray)]] rfl (by (try simp only [List.map_toArray, List.map_cons, List.map_nil]); first | done | rfl | (simp only [List.length_drop, List.length_take]; rfl)) ?_; (with_reducible refine (frame_Right.calls a0 a1 a2 (⟨#[120]⟩ : ByteArray) true _ A19.out).mono ?_); rintro e w31 ⟨rfl, hb⟩; refine ⟨_, rfl, ?_⟩; have n0_ := Aside0.mk (blk_below (g := gb137) (o := .cells #[.int .i64 a0, .int .i64 a1, .int .i64 a2, .string (⟨#[120]⟩ : ByteArray)] 23 (0, 0)) (by (with_reducible repeat (first | refine blk_drewN ?_ _ | refine blk_drew ?_ | refine blk_alloc ?_ _)); exact BK137.out) hb); have n1_ := Aside0.mk (below_step (by repeat (first | (with_reducible first | exact HB.out | apply below_alloc | apply pw_below_drewN | apply below_drew1 | refine below_set ?_ GE137.out) | exact HB.out)) hb); clear BK137; clear HB; have BK137 := n0_; have HB := n1_; clear n0_ n1_; (try clear hb); (try clear hb2); (try clear hk); (try clear hi)))
              go_meet
              case rel => exact ⟨_, (false), (by first | rfl | (simp; done) | (simp [*]; done)), H', ⟨by have := HJ5.out; first | omega | exact Nat.le_refl _⟩, ⟨by (with_reducible repeat (first | refine blk_drewN ?_ _ | refine blk_drew ?_ | refine blk_alloc ?_ _)); exact BK137.out⟩, ⟨by repeat (first | (with_reducible first | exact HB.out | apply below_alloc | apply pw_below_drewN | apply below_drew1 | refine below_set ?_ GE137.out) | exact HB.out)⟩⟩
          · replace c20 := Bool.eq_false_iff.mpr c20
            subst c20
            have H1 : (if x8_5 = true then (bywashlaw7_FrameBounds.j1 kj5 false) else (if t139 = true then (bywashlaw7_FrameBounds.j1 kj5 false) else (if (t138.size : Int) = 10 then (bywashlaw7_FrameBounds.j1 kj5 false) else (bywashlaw7_FrameBounds.j1 kj5 (t138.toList == ([] : List UInt8)))))) = some r := by rw [if_neg (show ¬ (false = true) by decide)] at H; exact H
            clear H
            have H := H1
            clear H1
            by_cases c32 : x8_5 = true
            · subst c32
              have H1 : (bywashlaw7_FrameBounds.j1 kj5 false) = some r := by rw [if_pos rfl] at H; exact H
              clear H
              have H := H1
              clear H1
              have H' := Aside0.mk H
              clear H
              have hcz33_0 : w18.cell? ⟨gb137, 0, none⟩ = some (.int .i64 a0) := (blk_cell BK137.out 0).trans rfl
              have hcz33_1 : w18.cell? ⟨gb137, 1, none⟩ = some (.int .i64 a1) := (blk_cell BK137.out 1).trans rfl
              have hcz33_2 : w18.cell? ⟨gb137, 2, none⟩ = some (.int .i64 a2) := (blk_cell BK137.out 2).trans rfl
              have hcz33_3 : w18.cell? ⟨gb137, 3, none⟩ = some (.string (⟨#[120]⟩ : ByteArray)) := (blk_cell BK137.out 3).trans rfl
              have hfz33_0 := blk_frozen BK137.out 0
              have hfz33_1 := blk_frozen BK137.out 1
              have hfz33_2 := blk_frozen BK137.out 2
              have hfz33_3 := blk_frozen BK137.out 3
              go_wp2_with (first | ((with_reducible refine gate_callee (f := 16) rfl ?_); refine goesL_ (some 45) rfl rfl Try.func16 (by kernel_rfl) rfl #[.agg #[.int .i64 a0, .int .i64 a1, .int .i64 a2, .string (⟨#[120]⟩ : ByteArray)]] rfl (by (try simp only [List.map_toArray, List.map_cons, List.map_nil]); first | done | rfl | (simp only [List.length_drop, List.length_take]; rfl)) ?_; (with_reducible refine (frame_Right.calls a0 a1 a2 (⟨#[120]⟩ : ByteArray) false _ A19.out).mono ?_); rintro e w34 ⟨rfl, hb⟩; refine ⟨_, rfl, ?_⟩; have n0_ := Aside0.mk (blk_below (g := gb137) (o := .cells #[.int .i64 a0, .int .i64 a1, .int .i64 a2, .string (⟨#[120]⟩ : ByteArray)] 23 (0, 0)) (by (with_reducible repeat (first | refine blk_drewN ?_ _ | refine blk_drew ?_ | refine blk_alloc ?_ _)); exact BK137.out) hb); have n1_ := Aside0.mk (below_step (by repeat (first | (with_reducible first | exact HB.out | apply below_alloc | apply pw_below_drewN | apply below_drew1 | refine below_set ?_ GE137.out) | exact HB.out)) hb); clear BK137; clear HB; have BK137 := n0_; have HB := n1_; clear n0_ n1_; (try clear hb); (try clear hb2); (try clear hk); (try clear hi)))
              go_meet
              case rel => exact ⟨_, (false), (by first | rfl | (simp; done) | (simp [*]; done)), H', ⟨by have := HJ5.out; first | omega | exact Nat.le_refl _⟩, ⟨by (with_reducible repeat (first | refine blk_drewN ?_ _ | refine blk_drew ?_ | refine blk_alloc ?_ _)); exact BK137.out⟩, ⟨by repeat (first | (with_reducible first | exact HB.out | apply below_alloc | apply pw_below_drewN | apply below_drew1 | refine below_set ?_ GE137.out) | exact HB.out)⟩⟩
            · replace c32 := Bool.eq_false_iff.mpr c32
              subst c32
              have H1 : (if t139 = true then (bywashlaw7_FrameBounds.j1 kj5 false) else (if (t138.size : Int) = 10 then (bywashlaw7_FrameBounds.j1 kj5 false) else (bywashlaw7_FrameBounds.j1 kj5 (t138.toList == ([] : List UInt8))))) = some r := by rw [if_neg (show ¬ (false = true) by decide)] at H; exact H
              clear H
              have H := H1
              clear H1
              by_cases c35 : t139 = true
              · subst c35
                have H1 : (bywashlaw7_FrameBounds.j1 kj5 false) = some r := by rw [if_pos rfl] at H; exact H
                clear H
                have H := H1
                clear H1
                have H' := Aside0.mk H
                clear H
                have hcz36_0 : w18.cell? ⟨gb137, 0, none⟩ = some (.int .i64 a0) := (blk_cell BK137.out 0).trans rfl
                have hcz36_1 : w18.cell? ⟨gb137, 1, none⟩ = some (.int .i64 a1) := (blk_cell BK137.out 1).trans rfl
                have hcz36_2 : w18.cell? ⟨gb137, 2, none⟩ = some (.int .i64 a2) := (blk_cell BK137.out 2).trans rfl
                have hcz36_3 : w18.cell? ⟨gb137, 3, none⟩ = some (.string (⟨#[120]⟩ : ByteArray)) := (blk_cell BK137.out 3).trans rfl
                have hfz36_0 := blk_frozen BK137.out 0
                have hfz36_1 := blk_frozen BK137.out 1
                have hfz36_2 := blk_frozen BK137.out 2
                have hfz36_3 := blk_frozen BK137.out 3
                go_wp2_with (first | ((with_reducible refine gate_callee (f := 16) rfl ?_); refine goesL_ (some 45) rfl rfl Try.func16 (by kernel_rfl) rfl #[.agg #[.int .i64 a0, .int .i64 a1, .int .i64 a2, .string (⟨#[120]⟩ : ByteArray)]] rfl (by (try simp only [List.map_toArray, List.map_cons, List.map_nil]); first | done | rfl | (simp only [List.length_drop, List.length_take]; rfl)) ?_; (with_reducible refine (frame_Right.calls a0 a1 a2 (⟨#[120]⟩ : ByteArray) false _ A19.out).mono ?_); rintro e w37 ⟨rfl, hb⟩; refine ⟨_, rfl, ?_⟩; have n0_ := Aside0.mk (blk_below (g := gb137) (o := .cells #[.int .i64 a0, .int .i64 a1, .int .i64 a2, .string (⟨#[120]⟩ : ByteArray)] 23 (0, 0)) (by (with_reducible repeat (first | refine blk_drewN ?_ _ | refine blk_drew ?_ | refine blk_alloc ?_ _)); exact BK137.out) hb); have n1_ := Aside0.mk (below_step (by repeat (first | (with_reducible first | exact HB.out | apply below_alloc | apply pw_below_drewN | apply below_drew1 | refine below_set ?_ GE137.out) | exact HB.out)) hb); clear BK137; clear HB; have BK137 := n0_; have HB := n1_; clear n0_ n1_; (try clear hb); (try clear hb2); (try clear hk); (try clear hi)))
                go_meet
                case rel => exact ⟨_, (false), (by first | rfl | (simp; done) | (simp [*]; done)), H', ⟨by have := HJ5.out; first | omega | exact Nat.le_refl _⟩, ⟨by (with_reducible repeat (first | refine blk_drewN ?_ _ | refine blk_drew ?_ | refine blk_alloc ?_ _)); exact BK137.out⟩, ⟨by repeat (first | (with_reducible first | exact HB.out | apply below_alloc | apply pw_below_drewN | apply below_drew1 | refine below_set ?_ GE137.out) | exact HB.out)⟩⟩
              · replace c35 := Bool.eq_false_iff.mpr c35
                subst c35
                have H1 : (if (t138.size : Int) = 10 then (bywashlaw7_FrameBounds.j1 kj5 false) else (bywashlaw7_FrameBounds.j1 kj5 (t138.toList == ([] : List UInt8)))) = some r := by rw [if_neg (show ¬ (false = true) by decide)] at H; exact H
                clear H
                have H := H1
                clear H1
                by_cases c38 : (t138.size : Int) = 10
                · rw [if_pos c38] at H
                  have c38b0 : ((t138.size : Int) == 10) = true := beq_iff_eq.mpr c38
                  have c38b1 : ((t138.size : Int) != 10) = false := bne_eq_false_iff_eq.mpr c38
                  clear c38
                  have H' := Aside0.mk H
                  clear H
                  have hcz39_0 : w18.cell? ⟨gb137, 0, none⟩ = some (.int .i64 a0) := (blk_cell BK137.out 0).trans rfl
                  have hcz39_1 : w18.cell? ⟨gb137, 1, none⟩ = some (.int .i64 a1) := (blk_cell BK137.out 1).trans rfl
                  have hcz39_2 : w18.cell? ⟨gb137, 2, none⟩ = some (.int .i64 a2) := (blk_cell BK137.out 2).trans rfl
                  have hcz39_3 : w18.cell? ⟨gb137, 3, none⟩ = some (.string (⟨#[120]⟩ : ByteArray)) := (blk_cell BK137.out 3).trans rfl
                  have hfz39_0 := blk_frozen BK137.out 0
                  have hfz39_1 := blk_frozen BK137.out 1
                  have hfz39_2 := blk_frozen BK137.out 2
                  have hfz39_3 := blk_frozen BK137.out 3
                  go_wp2_with (first | ((with_reducible refine gate_callee (f := 16) rfl ?_); refine goesL_ (some 45) rfl rfl Try.func16 (by kernel_rfl) rfl #[.agg #[.int .i64 a0, .int .i64 a1, .int .i64 a2, .string (⟨#[120]⟩ : ByteArray)]] rfl (by (try simp only [List.map_toArray, List.map_cons, List.map_nil]); first | done | rfl | (simp only [List.length_drop, List.length_take]; rfl)) ?_; (with_reducible refine (frame_Right.calls a0 a1 a2 (⟨#[120]⟩ : ByteArray) false _ A19.out).mono ?_); rintro e w40 ⟨rfl, hb⟩; refine ⟨_, rfl, ?_⟩; have n0_ := Aside0.mk (blk_below (g := gb137) (o := .cells #[.int .i64 a0, .int .i64 a1, .int .i64 a2, .string (⟨#[120]⟩ : ByteArray)] 23 (0, 0)) (by (with_reducible repeat (first | refine blk_drewN ?_ _ | refine blk_drew ?_ | refine blk_alloc ?_ _)); exact BK137.out) hb); have n1_ := Aside0.mk (below_step (by repeat (first | (with_reducible first | exact HB.out | apply below_alloc | apply pw_below_drewN | apply below_drew1 | refine below_set ?_ GE137.out) | exact HB.out)) hb); clear BK137; clear HB; have BK137 := n0_; have HB := n1_; clear n0_ n1_; (try clear hb); (try clear hb2); (try clear hk); (try clear hi)))
                  go_meet
                  case rel => exact ⟨_, (false), (by first | rfl | (simp; done) | (simp [*]; done)), H', ⟨by have := HJ5.out; first | omega | exact Nat.le_refl _⟩, ⟨by (with_reducible repeat (first | refine blk_drewN ?_ _ | refine blk_drew ?_ | refine blk_alloc ?_ _)); exact BK137.out⟩, ⟨by repeat (first | (with_reducible first | exact HB.out | apply below_alloc | apply pw_below_drewN | apply below_drew1 | refine below_set ?_ GE137.out) | exact HB.out)⟩⟩
                · rw [if_neg c38] at H
                  have c38b0 : ((t138.size : Int) == 10) = false := beq_eq_false_iff_ne.mpr c38
                  have c38b1 : ((t138.size : Int) != 10) = true := bne_iff_ne.mpr c38
                  have H' := Aside0.mk H
                  clear H
                  have hcz41_0 : w18.cell? ⟨gb137, 0, none⟩ = some (.int .i64 a0) := (blk_cell BK137.out 0).trans rfl
                  have hcz41_1 : w18.cell? ⟨gb137, 1, none⟩ = some (.int .i64 a1) := (blk_cell BK137.out 1).trans rfl
                  have hcz41_2 : w18.cell? ⟨gb137, 2, none⟩ = some (.int .i64 a2) := (blk_cell BK137.out 2).trans rfl
                  have hcz41_3 : w18.cell? ⟨gb137, 3, none⟩ = some (.string (⟨#[120]⟩ : ByteArray)) := (blk_cell BK137.out 3).trans rfl
                  have hfz41_0 := blk_frozen BK137.out 0
                  have hfz41_1 := blk_frozen BK137.out 1
                  have hfz41_2 := blk_frozen BK137.out 2
                  have hfz41_3 := blk_frozen BK137.out 3
                  go_wp2_with (first | ((with_reducible refine gate_callee (f := 16) rfl ?_); refine goesL_ (some 45) rfl rfl Try.func16 (by kernel_rfl) rfl #[.agg #[.int .i64 a0, .int .i64 a1, .int .i64 a2, .string (⟨#[120]⟩ : ByteArray)]] rfl (by (try simp only [List.map_toArray, List.map_cons, List.map_nil]); first | done | rfl | (simp only [List.length_drop, List.length_take]; rfl)) ?_; (with_reducible refine (frame_Right.calls a0 a1 a2 (⟨#[120]⟩ : ByteArray) false _ A19.out).mono ?_); rintro e w42 ⟨rfl, hb⟩; refine ⟨_, rfl, ?_⟩; have n0_ := Aside0.mk (blk_below (g := gb137) (o := .cells #[.int .i64 a0, .int .i64 a1, .int .i64 a2, .string (⟨#[120]⟩ : ByteArray)] 23 (0, 0)) (by (with_reducible repeat (first | refine blk_drewN ?_ _ | refine blk_drew ?_ | refine blk_alloc ?_ _)); exact BK137.out) hb); have n1_ := Aside0.mk (below_step (by repeat (first | (with_reducible first | exact HB.out | apply below_alloc | apply pw_below_drewN | apply below_drew1 | refine below_set ?_ GE137.out) | exact HB.out)) hb); clear BK137; clear HB; have BK137 := n0_; have HB := n1_; clear n0_ n1_; (try clear hb); (try clear hb2); (try clear hk); (try clear hi)))
                  go_meet
                  case rel => exact ⟨_, ((t138.toList == ([] : List UInt8))), (by first | rfl | (simp; done) | (simp [*]; done)), H', ⟨by have := HJ5.out; first | omega | exact Nat.le_refl _⟩, ⟨by (with_reducible repeat (first | refine blk_drewN ?_ _ | refine blk_drew ?_ | refine blk_alloc ?_ _)); exact BK137.out⟩, ⟨by repeat (first | (with_reducible first | exact HB.out | apply below_alloc | apply pw_below_drewN | apply below_drew1 | refine below_set ?_ GE137.out) | exact HB.out)⟩⟩
        case rest =>
          clear HC16
          try clear c1
          try clear c2
          try clear p2
          try clear c3
          try clear c5
          try clear c7
          try clear c9
          try clear c10
          try clear c10b0
          try clear c11
          try clear c11b0
          try clear c12
          try clear c12b0
          try clear c13
          try clear c13b0
          try clear c14
          try clear c14b0
          try clear c16
          try clear c20
          try clear c21
          try clear c22
          try clear c23
          try clear c23b0
          try clear c23b1
          try clear c32
          try clear c35
          try clear c38
          try clear c38b0
          try clear c38b1
          try clear hcz17_0
          try clear hcz17_1
          try clear hcz17_2
          try clear hcz17_3
          try clear hcz24_0
          try clear hcz24_1
          try clear hcz24_2
          try clear hcz24_3
          try clear hcz26_0
          try clear hcz26_1
          try clear hcz26_2
          try clear hcz26_3
          try clear hcz28_0
          try clear hcz28_1
          try clear hcz28_2
          try clear hcz28_3
          try clear hcz30_0
          try clear hcz30_1
          try clear hcz30_2
          try clear hcz30_3
          try clear hcz33_0
          try clear hcz33_1
          try clear hcz33_2
          try clear hcz33_3
          try clear hcz36_0
          try clear hcz36_1
          try clear hcz36_2
          try clear hcz36_3
          try clear hcz39_0
          try clear hcz39_1
          try clear hcz39_2
          try clear hcz39_3
          try clear hcz41_0
          try clear hcz41_1
          try clear hcz41_2
          try clear hcz41_3
          try clear hcz9_0
          try clear hcz9_1
          try clear hcz9_2
          try clear hcz9_3
          try clear hfz17_0
          try clear hfz17_1
          try clear hfz17_2
          try clear hfz17_3
          try clear hfz24_0
          try clear hfz24_1
          try clear hfz24_2
          try clear hfz24_3
          try clear hfz26_0
          try clear hfz26_1
          try clear hfz26_2
          try clear hfz26_3
          try clear hfz28_0
          try clear hfz28_1
          try clear hfz28_2
          try clear hfz28_3
          try clear hfz30_0
          try clear hfz30_1
          try clear hfz30_2
          try clear hfz30_3
          try clear hfz33_0
          try clear hfz33_1
          try clear hfz33_2
          try clear hfz33_3
          try clear hfz36_0
          try clear hfz36_1
          try clear hfz36_2
          try clear hfz36_3
          try clear hfz39_0
          try clear hfz39_1
          try clear hfz39_2
          try clear hfz39_3
          try clear hfz41_0
          try clear hfz41_1
          try clear hfz41_2
          try clear hfz41_3
          try clear hfz9_0
          try clear hfz9_1
          try clear hfz9_2
          try clear hfz9_3
          try clear p2
          obtain ⟨kq, x6_15, rfl, HA, HJ15, BK137, HB⟩ := hcut
          cases kq with
          | zero => exact absurd HA.out (by simp [bywashlaw7_FrameBounds.j1])
          | succ kj15 =>
            have H := HA.out
            clear HA
            simp only [bywashlaw7_FrameBounds.j1] at H
            obtain rfl := Option.some.inj H
            go_wp2
            go_ret
            exact ⟨by first | rfl | (simp [errW_none, errW_some] <;> rfl) | (simp [*, errW_none, errW_some] <;> rfl), by repeat (first | (with_reducible first | exact HB.out | apply below_alloc | apply pw_below_drewN | apply below_drew1 | refine below_set ?_ GE137.out) | exact HB.out)⟩
  · replace c5 := Bool.eq_false_iff.mpr c5
    subst c5
    have H1 : (some false) = some r := by rw [if_neg (show ¬ (false = true) by decide)] at H; exact H
    clear H
    have H := H1
    clear H1
    obtain rfl := Option.some.inj H
    go_enter Try.func7, Try.ntmps7
    go_wp2_with (first | ((with_reducible refine gate_callee (f := 9) rfl ?_); refine goesL_ (some 11) rfl rfl Try.func9 (by kernel_rfl) rfl #[] rfl (by (try simp only [List.map_toArray, List.map_cons, List.map_nil]); first | done | rfl | (simp only [List.length_drop, List.length_take]; rfl)) ?_; (with_reducible refine (bywashlaw7_alive.calls k  false _ A4.out).mono ?_); rintro e w43 ⟨rfl, hb⟩; refine ⟨_, rfl, ?_⟩; have n0_ := Aside0.mk (below_step (by repeat (first | (with_reducible first | exact HB.out | apply below_alloc | apply pw_below_drewN | apply below_drew1) | exact HB.out)) hb); clear HB; have HB := n0_; clear n0_; (try clear hb); (try clear hb2); (try clear hk); (try clear hi)))
    go_ret
    exact ⟨by first | rfl | (simp [errW_none, errW_some] <;> rfl) | (simp [*, errW_none, errW_some] <;> rfl), by repeat (first | (with_reducible first | exact HB.out | apply below_alloc | apply pw_below_drewN | apply below_drew1) | exact HB.out)⟩

/-- THE ONE PURE STATEMENT of bywashlaw7_FrameBounds: yours. -/
def bywashlaw7_FrameBounds.Pure : Prop := ∀ (a0 : Int) (a1 : Int) (a2 : Int), (Lit.int .i64 a0).wf = true → (Lit.int .i64 a1).wf = true → (Lit.int .i64 a2).wf = true → ∃ k, bywashlaw7_FrameBounds.f k a0 a1 a2 = some true
theorem bywashlaw7_FrameBounds.walk (P : bywashlaw7_FrameBounds.Pure) (a0 : Int) (a1 : Int) (a2 : Int) (w : World) (w0 : (Lit.int .i64 a0).wf = true) (w1 : (Lit.int .i64 a1).wf = true) (w2 : (Lit.int .i64 a2).wf = true) :
    Calls Try.prog 7 #[.int .i64 a0, .int .i64 a1, .int .i64 a2] w fun e w' => e = .returned (.bool true) ∧ Below w.heap.size w w' := by
  obtain ⟨k, h⟩ := P a0 a1 a2 w0 w1 w2
  refine (bywashlaw7_FrameBounds.calls k a0 a1 a2 true w h).mono ?_
  rintro e w' ⟨rfl, hd⟩
  exact ⟨rfl, hd⟩

end Go.Proofs.Ytehccigpbchbcaa.PFrameBounds
