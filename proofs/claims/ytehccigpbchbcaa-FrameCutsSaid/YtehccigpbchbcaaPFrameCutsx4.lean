-- Written by a program of this session (the kit's printer, turned): the functions that the law reaches.
import Derived.Test.YtehccigpbchbcaaPFrameCutsx0
import Derived.Test.YtehccigpbchbcaaPFrameCutsx2
import Derived.Test.YtehccigpbchbcaaPFrameCutsx3
namespace Go.Proofs.Ytehccigpbchbcaa.PFrameCuts
open Go.RowKit Go.Proofs.YtehccigpbchbcaaW.PrintWords Go.Proofs.YtehccigpbchbcaaW.PrintLast Go.Proofs.YtehccigpbchbcaaW.PrintMore
attribute [local go_sem] max2_int min2_int max_two min_two max_three min_three max_four min_four   -- for this text's walks alone
set_option linter.unusedVariables false
set_option linter.unusedSimpArgs false

/-! ### bywashlaw7_alive: function 9 -/
def bywashlaw7_alive.j0 : Nat → Bool → Option (Bool)
  | 0, _ => none
  | k + 1, x0 => some x0
def bywashlaw7_alive.f (k : Nat)  : Option (Bool) := (frame_Put.f k 6 0 0 (⟨#[49, 50, 51, 52, 53, 54, 55, 56]⟩ : ByteArray)).bind fun bt123 => (if bt123.1.size + 1 ≤ 9223372036854775807 then ((frame_Get.f k (bt123.1 ++ (⟨#[120]⟩ : ByteArray))).bind fun bt125 => ((frame_Strip.f k 0 8 0 (⟨#[1, 97, 98]⟩ : ByteArray)).bind fun bt132 => (if bt123.2 = true then (if (bt123.1.size : Int) = 17 then (if bt125.2.2.2.2.1 = 17 then (if bt125.2.2.2.2.2 = 0 then (if bt125.2.2.2.1.toList = ([49, 50, 51, 52, 53, 54, 55, 56] : List UInt8) then (if bt132.1.toList = ([97] : List UInt8) then (if bt132.2.1 = 2 then (if bt132.2.2 = 0 then ((frame_Name.f 7).bind fun t135 => (bywashlaw7_alive.j0 k (t135.toList == ([97, 119, 97, 121] : List UInt8)))) else (bywashlaw7_alive.j0 k false)) else (bywashlaw7_alive.j0 k false)) else (bywashlaw7_alive.j0 k false)) else (bywashlaw7_alive.j0 k false)) else (bywashlaw7_alive.j0 k false)) else (bywashlaw7_alive.j0 k false)) else (bywashlaw7_alive.j0 k false)) else (bywashlaw7_alive.j0 k false)))) else (none))
theorem bywashlaw7_alive.mono_l : ∀ k, (∀ y0, LeO (bywashlaw7_alive.j0 k y0) (bywashlaw7_alive.j0 (k + 1) y0))
  | 0 => fun _ r h => by simp [bywashlaw7_alive.j0] at h
  | k + 1 => by
    have ih0 := bywashlaw7_alive.mono_l k
    · intro y0
      unfold bywashlaw7_alive.j0
      repeat' first
      | (with_reducible exact ih0 _)
      | (with_reducible exact frame_Get.mono _ _)
      | (with_reducible exact frame_Put.mono _ _ _ _ _)
      | (with_reducible exact frame_Strip.mono _ _ _ _ _)
      | (with_reducible exact LeO.refl _)
      | (with_reducible exact LeO.none _)
      | (with_reducible refine LeO.ite ?_ ?_)
      | (with_reducible refine LeO.bind ?_ (fun _ => ?_))
      | exact ih0 _
      | exact frame_Get.mono _ _
      | exact frame_Put.mono _ _ _ _ _
      | exact frame_Strip.mono _ _ _ _ _
      | exact LeO.none _
      | refine LeO.ite ?_ ?_
      | refine LeO.bind ?_ (fun _ => ?_)
theorem bywashlaw7_alive.mono : ∀ k, LeO (bywashlaw7_alive.f k ) (bywashlaw7_alive.f (k + 1) ) := by
  intro  k
  have ih0 := bywashlaw7_alive.mono_l k
  unfold bywashlaw7_alive.f
  repeat' first
      | (with_reducible exact ih0 _)
      | (with_reducible exact frame_Get.mono _ _)
      | (with_reducible exact frame_Put.mono _ _ _ _ _)
      | (with_reducible exact frame_Strip.mono _ _ _ _ _)
      | (with_reducible exact LeO.refl _)
      | (with_reducible exact LeO.none _)
      | (with_reducible refine LeO.ite ?_ ?_)
      | (with_reducible refine LeO.bind ?_ (fun _ => ?_))
      | exact ih0 _
      | exact frame_Get.mono _ _
      | exact frame_Put.mono _ _ _ _ _
      | exact frame_Strip.mono _ _ _ _ _
      | exact LeO.none _
      | refine LeO.ite ?_ ?_
      | refine LeO.bind ?_ (fun _ => ?_)
set_option maxHeartbeats 8000000 in
set_option maxRecDepth 100000 in
theorem bywashlaw7_alive.calls (k : Nat)  (r : Bool) (w : World) (h : bywashlaw7_alive.f k  = some r) :
    Calls Try.prog 9 #[] w fun e w' => e = .returned (.bool r) ∧ Below w.heap.size w w' := by
  have hu23 := Try.underlying23
  have HB := Aside0.mk (Below.refl w.heap.size w)
  have H : ((frame_Put.f k 6 0 0 (⟨#[49, 50, 51, 52, 53, 54, 55, 56]⟩ : ByteArray)).bind fun bt123 => (if bt123.1.size + 1 ≤ 9223372036854775807 then ((frame_Get.f k (bt123.1 ++ (⟨#[120]⟩ : ByteArray))).bind fun bt125 => ((frame_Strip.f k 0 8 0 (⟨#[1, 97, 98]⟩ : ByteArray)).bind fun bt132 => (if bt123.2 = true then (if (bt123.1.size : Int) = 17 then (if bt125.2.2.2.2.1 = 17 then (if bt125.2.2.2.2.2 = 0 then (if bt125.2.2.2.1.toList = ([49, 50, 51, 52, 53, 54, 55, 56] : List UInt8) then (if bt132.1.toList = ([97] : List UInt8) then (if bt132.2.1 = 2 then (if bt132.2.2 = 0 then ((frame_Name.f 7).bind fun t135 => (bywashlaw7_alive.j0 k (t135.toList == ([97, 119, 97, 121] : List UInt8)))) else (bywashlaw7_alive.j0 k false)) else (bywashlaw7_alive.j0 k false)) else (bywashlaw7_alive.j0 k false)) else (bywashlaw7_alive.j0 k false)) else (bywashlaw7_alive.j0 k false)) else (bywashlaw7_alive.j0 k false)) else (bywashlaw7_alive.j0 k false)) else (bywashlaw7_alive.j0 k false)))) else (none))) = some r := h
  clear h
  replace H := Option.bind_eq_some_iff.mp H
  obtain ⟨⟨t123, t124⟩, A10, H⟩ := H
  replace H : (if t123.size + 1 ≤ 9223372036854775807 then ((frame_Get.f k (t123 ++ (⟨#[120]⟩ : ByteArray))).bind fun bt125 => ((frame_Strip.f k 0 8 0 (⟨#[1, 97, 98]⟩ : ByteArray)).bind fun bt132 => (if t124 = true then (if (t123.size : Int) = 17 then (if bt125.2.2.2.2.1 = 17 then (if bt125.2.2.2.2.2 = 0 then (if bt125.2.2.2.1.toList = ([49, 50, 51, 52, 53, 54, 55, 56] : List UInt8) then (if bt132.1.toList = ([97] : List UInt8) then (if bt132.2.1 = 2 then (if bt132.2.2 = 0 then ((frame_Name.f 7).bind fun t135 => (bywashlaw7_alive.j0 k (t135.toList == ([97, 119, 97, 121] : List UInt8)))) else (bywashlaw7_alive.j0 k false)) else (bywashlaw7_alive.j0 k false)) else (bywashlaw7_alive.j0 k false)) else (bywashlaw7_alive.j0 k false)) else (bywashlaw7_alive.j0 k false)) else (bywashlaw7_alive.j0 k false)) else (bywashlaw7_alive.j0 k false)) else (bywashlaw7_alive.j0 k false)))) else (none)) = some r := H
  have A1 := Aside0.mk A10
  clear A10
  by_cases c2 : t123.size + 1 ≤ 9223372036854775807
  · rw [if_pos c2] at H
    have c2b0 := eq_true c2
    have c2b1 : decide (t123.size + 1 ≤ 9223372036854775807) = true := decide_eq_true c2
    try have c2b2 : (9223372036854775807 < t123.size + 1) = False := eq_false (Nat.not_lt.2 c2)
    replace H := Option.bind_eq_some_iff.mp H
    obtain ⟨⟨t125, t126, t127, t128, t129, t130⟩, A30, H⟩ := H
    replace H : ((frame_Strip.f k 0 8 0 (⟨#[1, 97, 98]⟩ : ByteArray)).bind fun bt132 => (if t124 = true then (if (t123.size : Int) = 17 then (if t129 = 17 then (if t130 = 0 then (if t128.toList = ([49, 50, 51, 52, 53, 54, 55, 56] : List UInt8) then (if bt132.1.toList = ([97] : List UInt8) then (if bt132.2.1 = 2 then (if bt132.2.2 = 0 then ((frame_Name.f 7).bind fun t135 => (bywashlaw7_alive.j0 k (t135.toList == ([97, 119, 97, 121] : List UInt8)))) else (bywashlaw7_alive.j0 k false)) else (bywashlaw7_alive.j0 k false)) else (bywashlaw7_alive.j0 k false)) else (bywashlaw7_alive.j0 k false)) else (bywashlaw7_alive.j0 k false)) else (bywashlaw7_alive.j0 k false)) else (bywashlaw7_alive.j0 k false)) else (bywashlaw7_alive.j0 k false))) = some r := H
    have A3 := Aside0.mk A30
    clear A30
    replace H := Option.bind_eq_some_iff.mp H
    obtain ⟨⟨t132, t133, t134⟩, A40, H⟩ := H
    replace H : (if t124 = true then (if (t123.size : Int) = 17 then (if t129 = 17 then (if t130 = 0 then (if t128.toList = ([49, 50, 51, 52, 53, 54, 55, 56] : List UInt8) then (if t132.toList = ([97] : List UInt8) then (if t133 = 2 then (if t134 = 0 then ((frame_Name.f 7).bind fun t135 => (bywashlaw7_alive.j0 k (t135.toList == ([97, 119, 97, 121] : List UInt8)))) else (bywashlaw7_alive.j0 k false)) else (bywashlaw7_alive.j0 k false)) else (bywashlaw7_alive.j0 k false)) else (bywashlaw7_alive.j0 k false)) else (bywashlaw7_alive.j0 k false)) else (bywashlaw7_alive.j0 k false)) else (bywashlaw7_alive.j0 k false)) else (bywashlaw7_alive.j0 k false)) = some r := H
    have A4 := Aside0.mk A40
    clear A40
    have HC5 := Aside0.mk H
    clear H
    go_enter Try.func9, Try.ntmps9
    go_upto_region 4 with (first | ((with_reducible refine gate_callee (f := 10) rfl ?_); refine goesL_ (some 11) rfl rfl Try.func10 (by kernel_rfl) rfl #[.agg #[.int .i64 6, .int .i64 0, .int .i64 0, .string (⟨#[49, 50, 51, 52, 53, 54, 55, 56]⟩ : ByteArray)]] rfl (by (try simp only [List.map_toArray, List.map_cons, List.map_nil]); first | done | rfl | (simp only [List.length_drop, List.length_take]; rfl)) ?_; (with_reducible refine (frame_Put.calls k 6 0 0 (⟨#[49, 50, 51, 52, 53, 54, 55, 56]⟩ : ByteArray) t123 t124 _ A1.out).mono ?_); rintro e w6 ⟨rfl, hb⟩; refine ⟨_, rfl, ?_⟩; have n0_ := Aside0.mk (below_step (by repeat (first | (with_reducible first | exact HB.out | apply below_alloc | apply pw_below_drewN | apply below_drew1) | exact HB.out)) hb); clear HB; have HB := n0_; clear n0_; (try clear hb); (try clear hb2); (try clear hk); (try clear hi)) | ((with_reducible refine gate_callee (f := 12) rfl ?_); refine goesL_ (some 17) rfl rfl Try.func12 (by kernel_rfl) rfl #[.string (t123 ++ (⟨#[120]⟩ : ByteArray))] rfl (by (try simp only [List.map_toArray, List.map_cons, List.map_nil]); first | done | rfl | (simp only [List.length_drop, List.length_take]; rfl)) ?_; (with_reducible refine (frame_Get.calls k (t123 ++ (⟨#[120]⟩ : ByteArray)) t125 t126 t127 t128 t129 t130 _ A3.out).mono ?_); rintro e w7 ⟨rfl, hb⟩; refine ⟨_, rfl, ?_⟩; have n0_ := Aside0.mk (below_step (by repeat (first | (with_reducible first | exact HB.out | apply below_alloc | apply pw_below_drewN | apply below_drew1) | exact HB.out)) hb); clear HB; have HB := n0_; clear n0_; (try clear hb); (try clear hb2); (try clear hk); (try clear hi)) | ((with_reducible refine gate_dst (N := 3) rfl ?_); (try (refine gate_guard (by rfl) ?_; dsimp only)); refine box_event ?hg (N := 3) ?hd (cs := #[.int .i64 0, .int .i64 0, .int .i64 0, .string (⟨#[]⟩ : ByteArray)]) (t := 23) ?hr ?_; (case hd => rfl); (case hg => rfl); (case hr => first | (go_simp; done) | (go_simp; rfl)); intro gb131 hg w8 hbox hb; have n0_ := Aside0.mk (below_step (by repeat (first | (with_reducible first | exact HB.out | apply below_alloc | apply pw_below_drewN | apply below_drew1) | exact HB.out)) hb); have n1_ := Aside0.mk (hbox); have n2_ := Aside0.mk ((by rw [hg]; exact (below_size (by repeat (first | (with_reducible first | exact HB.out | apply below_alloc | apply pw_below_drewN | apply below_drew1) | exact HB.out))) : w.heap.size ≤ gb131)); have n3_ := Aside0.mk ((by rw [hg]; exact (below_size (by repeat (first | (with_reducible first | exact HB.out | apply below_alloc | apply pw_below_drewN | apply below_drew1) | exact HB.out))) : w.heap.size ≤ gb131)); clear HB; have HB := n0_; have BK131 := n1_; have GW131 := n2_; have GE131 := n3_; clear n0_ n1_ n2_ n3_; clear hb hbox hg; have hcz9_0 : w8.cell? ⟨gb131, 0, none⟩ = some (.int .i64 0) := (blk_cell BK131.out 0).trans rfl; have hcz9_1 : w8.cell? ⟨gb131, 1, none⟩ = some (.int .i64 0) := (blk_cell BK131.out 1).trans rfl; have hcz9_2 : w8.cell? ⟨gb131, 2, none⟩ = some (.int .i64 0) := (blk_cell BK131.out 2).trans rfl; have hcz9_3 : w8.cell? ⟨gb131, 3, none⟩ = some (.string (⟨#[]⟩ : ByteArray)) := (blk_cell BK131.out 3).trans rfl; have hfz9_0 := blk_frozen BK131.out 0; have hfz9_1 := blk_frozen BK131.out 1; have hfz9_2 := blk_frozen BK131.out 2; have hfz9_3 := blk_frozen BK131.out 3) | ((with_reducible refine gate_callee (f := 14) rfl ?_); refine goesL_ (some 23) rfl rfl Try.func14 (by kernel_rfl) rfl #[.agg #[.int .i64 0, .int .i64 8, .int .i64 0, .string (⟨#[1, 97, 98]⟩ : ByteArray)]] rfl (by (try simp only [List.map_toArray, List.map_cons, List.map_nil]); first | done | rfl | (simp only [List.length_drop, List.length_take]; rfl)) ?_; (with_reducible refine (frame_Strip.calls k 0 8 0 (⟨#[1, 97, 98]⟩ : ByteArray) t132 t133 t134 _ A4.out).mono ?_); rintro e w10 ⟨rfl, hb⟩; refine ⟨_, rfl, ?_⟩; have n0_ := Aside0.mk (blk_below (g := gb131) (o := .cells #[.int .i64 t125, .int .i64 t126, .int .i64 t127, .string t128] 23 (0, 0)) (by (with_reducible repeat (first | refine blk_drewN ?_ _ | refine blk_drew ?_ | refine blk_alloc ?_ _)); refine blk_put (cs := #[.int .i64 t125, .int .i64 t126, .int .i64 t127, .string (⟨#[]⟩ : ByteArray)]) ?_ 3 _ rfl; (with_reducible repeat (first | refine blk_drewN ?_ _ | refine blk_drew ?_ | refine blk_alloc ?_ _)); refine blk_put (cs := #[.int .i64 t125, .int .i64 t126, .int .i64 0, .string (⟨#[]⟩ : ByteArray)]) ?_ 2 _ rfl; (with_reducible repeat (first | refine blk_drewN ?_ _ | refine blk_drew ?_ | refine blk_alloc ?_ _)); refine blk_put (cs := #[.int .i64 t125, .int .i64 0, .int .i64 0, .string (⟨#[]⟩ : ByteArray)]) ?_ 1 _ rfl; (with_reducible repeat (first | refine blk_drewN ?_ _ | refine blk_drew ?_ | refine blk_alloc ?_ _)); refine blk_put (cs := #[.int .i64 0, .int .i64 0, .int .i64 0, .string (⟨#[]⟩ : ByteArray)]) ?_ 0 _ rfl; (with_reducible repeat (first | refine blk_drewN ?_ _ | refine blk_drew ?_ | refine blk_alloc ?_ _)); exact BK131.out) hb); have n1_ := Aside0.mk (below_step (by repeat (first | (with_reducible first | exact HB.out | apply below_alloc | apply pw_below_drewN | apply below_drew1 | refine below_set ?_ GE131.out) | exact HB.out)) hb); clear BK131; clear HB; have BK131 := n0_; have HB := n1_; clear n0_ n1_; (try clear hb); (try clear hb2); (try clear hk); (try clear hi)))
    (try simp only [Act.put, List.setIfInBounds_toArray, List.set_cons_zero, List.set_cons_succ])
    go_cut [0] (fun v0 wc => ∃ (kq : Nat) (x0_4 : Bool), v0 = .bool x0_4 ∧ Aside0 (bywashlaw7_alive.j0 kq x0_4 = some r) ∧ Aside0 (kq ≤ k) ∧ Aside0 (wc.heap[gb131]? = some (.cells #[.int .i64 t125, .int .i64 t126, .int .i64 t127, .string t128] 23 (0, 0))) ∧ Aside0 (Below w.heap.size w wc))
    case first =>
      have H := HC5.out
      clear HC5
      by_cases c11 : t124 = true
      · subst c11
        have H1 : (if (t123.size : Int) = 17 then (if t129 = 17 then (if t130 = 0 then (if t128.toList = ([49, 50, 51, 52, 53, 54, 55, 56] : List UInt8) then (if t132.toList = ([97] : List UInt8) then (if t133 = 2 then (if t134 = 0 then ((frame_Name.f 7).bind fun t135 => (bywashlaw7_alive.j0 k (t135.toList == ([97, 119, 97, 121] : List UInt8)))) else (bywashlaw7_alive.j0 k false)) else (bywashlaw7_alive.j0 k false)) else (bywashlaw7_alive.j0 k false)) else (bywashlaw7_alive.j0 k false)) else (bywashlaw7_alive.j0 k false)) else (bywashlaw7_alive.j0 k false)) else (bywashlaw7_alive.j0 k false)) = some r := by rw [if_pos rfl] at H; exact H
        clear H
        have H := H1
        clear H1
        by_cases c12 : (t123.size : Int) = 17
        · rw [if_pos c12] at H
          have c12b0 : ((t123.size : Int) == 17) = true := beq_iff_eq.mpr c12
          have c12b1 : ((t123.size : Int) != 17) = false := bne_eq_false_iff_eq.mpr c12
          clear c12
          (first | rw [c12b0] | (simp only [i64_w, i32_w]; rw [c12b0]) | skip)
          by_cases c13 : t129 = 17
          · rw [if_pos c13] at H
            have c13b0 : (t129 == 17) = true := beq_iff_eq.mpr c13
            have c13b1 : (t129 != 17) = false := bne_eq_false_iff_eq.mpr c13
            clear c13
            by_cases c14 : t130 = 0
            · rw [if_pos c14] at H
              have c14b0 : (t130 == 0) = true := beq_iff_eq.mpr c14
              have c14b1 : (t130 != 0) = false := bne_eq_false_iff_eq.mpr c14
              clear c14
              by_cases c15 : t128.toList = ([49, 50, 51, 52, 53, 54, 55, 56] : List UInt8)
              · rw [if_pos c15] at H
                have c15b0 : (t128.toList == ([49, 50, 51, 52, 53, 54, 55, 56] : List UInt8)) = true := beq_iff_eq.mpr c15
                have c15b1 : (t128.toList != ([49, 50, 51, 52, 53, 54, 55, 56] : List UInt8)) = false := bne_eq_false_iff_eq.mpr c15
                clear c15
                by_cases c16 : t132.toList = ([97] : List UInt8)
                · rw [if_pos c16] at H
                  have c16b0 : (t132.toList == ([97] : List UInt8)) = true := beq_iff_eq.mpr c16
                  have c16b1 : (t132.toList != ([97] : List UInt8)) = false := bne_eq_false_iff_eq.mpr c16
                  clear c16
                  by_cases c17 : t133 = 2
                  · rw [if_pos c17] at H
                    have c17b0 : (t133 == 2) = true := beq_iff_eq.mpr c17
                    have c17b1 : (t133 != 2) = false := bne_eq_false_iff_eq.mpr c17
                    clear c17
                    by_cases c18 : t134 = 0
                    · rw [if_pos c18] at H
                      have c18b0 : (t134 == 0) = true := beq_iff_eq.mpr c18
                      have c18b1 : (t134 != 0) = false := bne_eq_false_iff_eq.mpr c18
                      clear c18
                      replace H := Option.bind_eq_some_iff.mp H
                      obtain ⟨t135, A190, H⟩ := H
                      replace H : (bywashlaw7_alive.j0 k (t135.toList == ([97, 119, 97, 121] : List UInt8))) = some r := H
                      have A19 := Aside0.mk A190
                      clear A190
                      have H' := Aside0.mk H
                      clear H
                      have hcz20_0 : w10.cell? ⟨gb131, 0, none⟩ = some (.int .i64 t125) := (blk_cell BK131.out 0).trans rfl
                      have hcz20_1 : w10.cell? ⟨gb131, 1, none⟩ = some (.int .i64 t126) := (blk_cell BK131.out 1).trans rfl
                      have hcz20_2 : w10.cell? ⟨gb131, 2, none⟩ = some (.int .i64 t127) := (blk_cell BK131.out 2).trans rfl
                      have hcz20_3 : w10.cell? ⟨gb131, 3, none⟩ = some (.string t128) := (blk_cell BK131.out 3).trans rfl
                      have hfz20_0 := blk_frozen BK131.out 0
                      have hfz20_1 := blk_frozen BK131.out 1
                      have hfz20_2 := blk_frozen BK131.out 2
                      have hfz20_3 := blk_frozen BK131.out 3
                      go_wp2_with (first | (go_at_call 17; (with_reducible refine (frame_Name.calls 7 t135 _ A19.out).mono ?_); rintro e w21 ⟨rfl, hb⟩; have n0_ := Aside0.mk (blk_below (g := gb131) (o := .cells #[.int .i64 t125, .int .i64 t126, .int .i64 t127, .string t128] 23 (0, 0)) (by (with_reducible repeat (first | refine blk_drewN ?_ _ | refine blk_drew ?_ | refine blk_alloc ?_ _)); exact BK131.out) hb); have n1_ := Aside0.mk (below_step (by repeat (first | (with_reducible first | exact HB.out | apply below_alloc | apply pw_below_drewN | apply below_drew1 | refine below_set ?_ GE131.out) | exact HB.out)) hb); clear BK131; clear HB; have BK131 := n0_; have HB := n1_; clear n0_ n1_; (try clear hb); (try clear hb2); (try clear hk); (try clear hi)))
                      go_meet
                      case rel => exact ⟨_, ((t135.toList == ([97, 119, 97, 121] : List UInt8))), (by first | rfl | (simp; done) | (simp [*]; done)), H', ⟨by first | omega | exact Nat.le_refl _⟩, ⟨by (with_reducible repeat (first | refine blk_drewN ?_ _ | refine blk_drew ?_ | refine blk_alloc ?_ _)); exact BK131.out⟩, ⟨by repeat (first | (with_reducible first | exact HB.out | apply below_alloc | apply pw_below_drewN | apply below_drew1 | refine below_set ?_ GE131.out) | exact HB.out)⟩⟩
                    · rw [if_neg c18] at H
                      have c18b0 : (t134 == 0) = false := beq_eq_false_iff_ne.mpr c18
                      have c18b1 : (t134 != 0) = true := bne_iff_ne.mpr c18
                      have H' := Aside0.mk H
                      clear H
                      have hcz22_0 : w10.cell? ⟨gb131, 0, none⟩ = some (.int .i64 t125) := (blk_cell BK131.out 0).trans rfl
                      have hcz22_1 : w10.cell? ⟨gb131, 1, none⟩ = some (.int .i64 t126) := (blk_cell BK131.out 1).trans rfl
                      have hcz22_2 : w10.cell? ⟨gb131, 2, none⟩ = some (.int .i64 t127) := (blk_cell BK131.out 2).trans rfl
                      have hcz22_3 : w10.cell? ⟨gb131, 3, none⟩ = some (.string t128) := (blk_cell BK131.out 3).trans rfl
                      have hfz22_0 := blk_frozen BK131.out 0
                      have hfz22_1 := blk_frozen BK131.out 1
                      have hfz22_2 := blk_frozen BK131.out 2
                      have hfz22_3 := blk_frozen BK131.out 3
                      go_wp2
                      go_meet
                      case rel => exact ⟨_, (false), (by first | rfl | (simp; done) | (simp [*]; done)), H', ⟨by first | omega | exact Nat.le_refl _⟩, ⟨by (with_reducible repeat (first | refine blk_drewN ?_ _ | refine blk_drew ?_ | refine blk_alloc ?_ _)); exact BK131.out⟩, ⟨by repeat (first | (with_reducible first | exact HB.out | apply below_alloc | apply pw_below_drewN | apply below_drew1 | refine below_set ?_ GE131.out) | exact HB.out)⟩⟩
                  · rw [if_neg c17] at H
                    have c17b0 : (t133 == 2) = false := beq_eq_false_iff_ne.mpr c17
                    have c17b1 : (t133 != 2) = true := bne_iff_ne.mpr c17
                    have H' := Aside0.mk H
                    clear H
                    have hcz23_0 : w10.cell? ⟨gb131, 0, none⟩ = some (.int .i64 t125) := (blk_cell BK131.out 0).trans rfl
                    have hcz23_1 : w10.cell? ⟨gb131, 1, none⟩ = some (.int .i64 t126) := (blk_cell BK131.out 1).trans rfl
                    have hcz23_2 : w10.cell? ⟨gb131, 2, none⟩ = some (.int .i64 t127) := (blk_cell BK131.out 2).trans rfl
                    have hcz23_3 : w10.cell? ⟨gb131, 3, none⟩ = some (.string t128) := (blk_cell BK131.out 3).trans rfl
                    have hfz23_0 := blk_frozen BK131.out 0
                    have hfz23_1 := blk_frozen BK131.out 1
                    have hfz23_2 := blk_frozen BK131.out 2
                    have hfz23_3 := blk_frozen BK131.out 3
                    go_wp2
                    go_meet
                    case rel => exact ⟨_, (false), (by first | rfl | (simp; done) | (simp [*]; done)), H', ⟨by first | omega | exact Nat.le_refl _⟩, ⟨by (with_reducible repeat (first | refine blk_drewN ?_ _ | refine blk_drew ?_ | refine blk_alloc ?_ _)); exact BK131.out⟩, ⟨by repeat (first | (with_reducible first | exact HB.out | apply below_alloc | apply pw_below_drewN | apply below_drew1 | refine below_set ?_ GE131.out) | exact HB.out)⟩⟩
                · rw [if_neg c16] at H
                  have c16b0 : (t132.toList == ([97] : List UInt8)) = false := beq_eq_false_iff_ne.mpr c16
                  have c16b1 : (t132.toList != ([97] : List UInt8)) = true := bne_iff_ne.mpr c16
                  have H' := Aside0.mk H
                  clear H
                  have hcz24_0 : w10.cell? ⟨gb131, 0, none⟩ = some (.int .i64 t125) := (blk_cell BK131.out 0).trans rfl
                  have hcz24_1 : w10.cell? ⟨gb131, 1, none⟩ = some (.int .i64 t126) := (blk_cell BK131.out 1).trans rfl
                  have hcz24_2 : w10.cell? ⟨gb131, 2, none⟩ = some (.int .i64 t127) := (blk_cell BK131.out 2).trans rfl
                  have hcz24_3 : w10.cell? ⟨gb131, 3, none⟩ = some (.string t128) := (blk_cell BK131.out 3).trans rfl
                  have hfz24_0 := blk_frozen BK131.out 0
                  have hfz24_1 := blk_frozen BK131.out 1
                  have hfz24_2 := blk_frozen BK131.out 2
                  have hfz24_3 := blk_frozen BK131.out 3
                  go_wp2
                  go_meet
                  case rel => exact ⟨_, (false), (by first | rfl | (simp; done) | (simp [*]; done)), H', ⟨by first | omega | exact Nat.le_refl _⟩, ⟨by (with_reducible repeat (first | refine blk_drewN ?_ _ | refine blk_drew ?_ | refine blk_alloc ?_ _)); exact BK131.out⟩, ⟨by repeat (first | (with_reducible first | exact HB.out | apply below_alloc | apply pw_below_drewN | apply below_drew1 | refine below_set ?_ GE131.out) | exact HB.out)⟩⟩
              · rw [if_neg c15] at H
                have c15b0 : (t128.toList == ([49, 50, 51, 52, 53, 54, 55, 56] : List UInt8)) = false := beq_eq_false_iff_ne.mpr c15
                have c15b1 : (t128.toList != ([49, 50, 51, 52, 53, 54, 55, 56] : List UInt8)) = true := bne_iff_ne.mpr c15
                have H' := Aside0.mk H
                clear H
                have hcz25_0 : w10.cell? ⟨gb131, 0, none⟩ = some (.int .i64 t125) := (blk_cell BK131.out 0).trans rfl
                have hcz25_1 : w10.cell? ⟨gb131, 1, none⟩ = some (.int .i64 t126) := (blk_cell BK131.out 1).trans rfl
                have hcz25_2 : w10.cell? ⟨gb131, 2, none⟩ = some (.int .i64 t127) := (blk_cell BK131.out 2).trans rfl
                have hcz25_3 : w10.cell? ⟨gb131, 3, none⟩ = some (.string t128) := (blk_cell BK131.out 3).trans rfl
                have hfz25_0 := blk_frozen BK131.out 0
                have hfz25_1 := blk_frozen BK131.out 1
                have hfz25_2 := blk_frozen BK131.out 2
                have hfz25_3 := blk_frozen BK131.out 3
                go_wp2
                go_meet
                case rel => exact ⟨_, (false), (by first | rfl | (simp; done) | (simp [*]; done)), H', ⟨by first | omega | exact Nat.le_refl _⟩, ⟨by (with_reducible repeat (first | refine blk_drewN ?_ _ | refine blk_drew ?_ | refine blk_alloc ?_ _)); exact BK131.out⟩, ⟨by repeat (first | (with_reducible first | exact HB.out | apply below_alloc | apply pw_below_drewN | apply below_drew1 | refine below_set ?_ GE131.out) | exact HB.out)⟩⟩
            · rw [if_neg c14] at H
              have c14b0 : (t130 == 0) = false := beq_eq_false_iff_ne.mpr c14
              have c14b1 : (t130 != 0) = true := bne_iff_ne.mpr c14
              have H' := Aside0.mk H
              clear H
              go_wp2
              go_meet
              case rel => exact ⟨_, (false), (by first | rfl | (simp; done) | (simp [*]; done)), H', ⟨by first | omega | exact Nat.le_refl _⟩, ⟨by (with_reducible repeat (first | refine blk_drewN ?_ _ | refine blk_drew ?_ | refine blk_alloc ?_ _)); exact BK131.out⟩, ⟨by repeat (first | (with_reducible first | exact HB.out | apply below_alloc | apply pw_below_drewN | apply below_drew1 | refine below_set ?_ GE131.out) | exact HB.out)⟩⟩
          · rw [if_neg c13] at H
            have c13b0 : (t129 == 17) = false := beq_eq_false_iff_ne.mpr c13
            have c13b1 : (t129 != 17) = true := bne_iff_ne.mpr c13
            have H' := Aside0.mk H
            clear H
            go_wp2
            go_meet
            case rel => exact ⟨_, (false), (by first | rfl | (simp; done) | (simp [*]; done)), H', ⟨by first | omega | exact Nat.le_refl _⟩, ⟨by (with_reducible repeat (first | refine blk_drewN ?_ _ | refine blk_drew ?_ | refine blk_alloc ?_ _)); exact BK131.out⟩, ⟨by repeat (first | (with_reducible first | exact HB.out | apply below_alloc | apply pw_below_drewN | apply below_drew1 | refine below_set ?_ GE131.out) | exact HB.out)⟩⟩
        · rw [if_neg c12] at H
          have c12b0 : ((t123.size : Int) == 17) = false := beq_eq_false_iff_ne.mpr c12
          have c12b1 : ((t123.size : Int) != 17) = true := bne_iff_ne.mpr c12
          (first | rw [c12b0] | (simp only [i64_w, i32_w]; rw [c12b0]) | skip)
          have H' := Aside0.mk H
          clear H
          go_wp2
          go_meet
          case rel => exact ⟨_, (false), (by first | rfl | (simp; done) | (simp [*]; done)), H', ⟨by first | omega | exact Nat.le_refl _⟩, ⟨by (with_reducible repeat (first | refine blk_drewN ?_ _ | refine blk_drew ?_ | refine blk_alloc ?_ _)); exact BK131.out⟩, ⟨by repeat (first | (with_reducible first | exact HB.out | apply below_alloc | apply pw_below_drewN | apply below_drew1 | refine below_set ?_ GE131.out) | exact HB.out)⟩⟩
      · replace c11 := Bool.eq_false_iff.mpr c11
        subst c11
        have H1 : (bywashlaw7_alive.j0 k false) = some r := by rw [if_neg (show ¬ (false = true) by decide)] at H; exact H
        clear H
        have H := H1
        clear H1
        have H' := Aside0.mk H
        clear H
        go_wp2
        go_meet
        case rel => exact ⟨_, (false), (by first | rfl | (simp; done) | (simp [*]; done)), H', ⟨by first | omega | exact Nat.le_refl _⟩, ⟨by (with_reducible repeat (first | refine blk_drewN ?_ _ | refine blk_drew ?_ | refine blk_alloc ?_ _)); exact BK131.out⟩, ⟨by repeat (first | (with_reducible first | exact HB.out | apply below_alloc | apply pw_below_drewN | apply below_drew1 | refine below_set ?_ GE131.out) | exact HB.out)⟩⟩
    case rest =>
      clear HC5
      try clear c1
      try clear c2
      try clear c2b0
      try clear c2b1
      try clear c2b2
      try clear p2
      try clear c9
      try clear c10
      try clear c11
      try clear c12
      try clear c12b0
      try clear c12b1
      try clear c13
      try clear c13b0
      try clear c13b1
      try clear c14
      try clear c14b0
      try clear c14b1
      try clear c15
      try clear c15b0
      try clear c15b1
      try clear c16
      try clear c16b0
      try clear c16b1
      try clear c17
      try clear c17b0
      try clear c17b1
      try clear c18
      try clear c18b0
      try clear c18b1
      try clear hcz20_0
      try clear hcz20_1
      try clear hcz20_2
      try clear hcz20_3
      try clear hcz22_0
      try clear hcz22_1
      try clear hcz22_2
      try clear hcz22_3
      try clear hcz23_0
      try clear hcz23_1
      try clear hcz23_2
      try clear hcz23_3
      try clear hcz24_0
      try clear hcz24_1
      try clear hcz24_2
      try clear hcz24_3
      try clear hcz25_0
      try clear hcz25_1
      try clear hcz25_2
      try clear hcz25_3
      try clear hcz9_0
      try clear hcz9_1
      try clear hcz9_2
      try clear hcz9_3
      try clear hfz20_0
      try clear hfz20_1
      try clear hfz20_2
      try clear hfz20_3
      try clear hfz22_0
      try clear hfz22_1
      try clear hfz22_2
      try clear hfz22_3
      try clear hfz23_0
      try clear hfz23_1
      try clear hfz23_2
      try clear hfz23_3
      try clear hfz24_0
      try clear hfz24_1
      try clear hfz24_2
      try clear hfz24_3
      try clear hfz25_0
      try clear hfz25_1
      try clear hfz25_2
      try clear hfz25_3
      try clear hfz9_0
      try clear hfz9_1
      try clear hfz9_2
      try clear hfz9_3
      obtain ⟨kq, x0_4, rfl, HA, HJ4, BK131, HB⟩ := hcut
      cases kq with
      | zero => exact absurd HA.out (by simp [bywashlaw7_alive.j0])
      | succ kj4 =>
        have H := HA.out
        clear HA
        simp only [bywashlaw7_alive.j0] at H
        obtain rfl := Option.some.inj H
        go_wp2
        go_ret
        exact ⟨by first | rfl | (simp [errW_none, errW_some] <;> rfl) | (simp [*, errW_none, errW_some] <;> rfl), by repeat (first | (with_reducible first | exact HB.out | apply below_alloc | apply pw_below_drewN | apply below_drew1 | refine below_set ?_ GE131.out) | exact HB.out)⟩
  · rw [if_neg c2] at H
    exact absurd H (by simp)

end Go.Proofs.Ytehccigpbchbcaa.PFrameCuts
