-- Written by a program of this session (the kit's printer, turned): the functions that the law reaches.
import Derived.Test.YtehccigpbchbcaaPFrameTellsx0
import Derived.Test.YtehccigpbchbcaaPFrameTellsx2
import Derived.Test.YtehccigpbchbcaaPFrameTellsx3
namespace Go.Proofs.Ytehccigpbchbcaa.PFrameTells
open Go.RowKit Go.Proofs.YtehccigpbchbcaaW.PrintWords Go.Proofs.YtehccigpbchbcaaW.PrintLast Go.Proofs.YtehccigpbchbcaaW.PrintMore
attribute [local go_sem] max2_int min2_int max_two min_two max_three min_three max_four min_four   -- for this text's walks alone
set_option linter.unusedVariables false
set_option linter.unusedSimpArgs false

/-! ### bywashlaw7_alive: function 9 -/
def bywashlaw7_alive.j0 : Nat → Bool → Option (Bool)
  | 0, _ => none
  | k + 1, x0 => some x0
def bywashlaw7_alive.f (k : Nat)  : Option (Bool) := (frame_Put.f k 6 0 0 (⟨#[49, 50, 51, 52, 53, 54, 55, 56]⟩ : ByteArray)).bind fun bt123 => (if bt123.1.size + 1 ≤ 9223372036854775807 then ((frame_Get.f k (bt123.1 ++ (⟨#[120]⟩ : ByteArray))).bind fun bt125 => ((frame_Strip.f k 0 8 0 (⟨#[1, 97, 98]⟩ : ByteArray)).bind fun bt132 => (if bt123.2 = true then (if (bt123.1.size : Int) = 17 then (if bt125.2.2.2.2.1 = 17 then (if bt125.2.2.2.2.2 = 0 then (if bt125.2.2.2.1.toList = ([49, 50, 51, 52, 53, 54, 55, 56] : List UInt8) then (if bt132.1.toList = ([97] : List UInt8) then (if bt132.2.1 = 2 then (if bt132.2.2 = 0 then ((frame_Name.f 7).bind fun t135 => (bywashlaw7_alive.j0 k (t135.toList == ([97, 119, 97, 121] : List UInt8)))) else (bywashlaw7_alive.j0 k false)) else (bywashlaw7_alive.j0 k false)) else (bywashlaw7_alive.j0 k false)) else (bywashlaw7_alive.j0 k false)) else (bywashlaw7_alive.j0 k false)) else (bywashlaw7_alive.j0 k false)) else (bywashlaw7_alive.j0 k false)) else (bywashlaw7_alive.j0 k false)))) else (none))
theorem bywashlaw7_alive.mono_l : ∀ k, (∀ y0, LeO (bywashlaw7_alive.j0 k y0) (bywashlaw7_alive.j0 (k + 1) y0))
  | 0 => fun _ r h => by simp [bywashlaw7_alive.j0] at h
  | k + 1 => by
    have ih0 := bywashlaw7_alive.mono_l k
    · intro y0
      unfold bywashlaw7_alive.j0
      repeat' first
      | (with_reducible exact ih0 _)
      | (with_reducible exact frame_Get.mono _ _)
      | (with_reducible exact frame_Put.mono _ _ _ _ _)
      | (with_reducible exact frame_Strip.mono _ _ _ _ _)
      | (with_reducible exact LeO.refl _)
      | (with_reducible exact LeO.none _)
      | (with_reducible refine LeO.ite ?_ ?_)
      | (with_reducible refine LeO.bind ?_ (fun _ => ?_))
      | exact ih0 _
      | exact frame_Get.mono _ _
      | exact frame_Put.mono _ _ _ _ _
      | exact frame_Strip.mono _ _ _ _ _
      | exact LeO.none _
      | refine LeO.ite ?_ ?_
      | refine LeO.bind ?_ (fun _ => ?_)
theorem bywashlaw7_alive.mono : ∀ k, LeO (bywashlaw7_alive.f k ) (bywashlaw7_alive.f (k + 1) ) := by
  intro  k
  have ih0 := bywashlaw7_alive.mono_l k
  unfold bywashlaw7_alive.f
  repeat' first
      | (with_reducible exact ih0 _)
      | (with_reducible exact frame_Get.mono _ _)
      | (with_reducible exact frame_Put.mono _ _ _ _ _)
      | (with_reducible exact frame_Strip.mono _ _ _ _ _)
      | (with_reducible exact LeO.refl _)
      | (with_reducible exact LeO.none _)
      | (with_reducible refine LeO.ite ?_ ?_)
      | (with_reducible refine LeO.bind ?_ (fun _ => ?_))
      | exact ih0 _
      | exact frame_Get.mono _ _
      | exact frame_Put.mono _ _ _ _ _
      | exact frame_Strip.mono _ _ _ _ _
      | exact LeO.none _
      | refine LeO.ite ?_ ?_
      | refine LeO.bind ?_ (fun _ => ?_)
set_option maxHeartbeats 8000000 in
set_option maxRecDepth 100000 in
theorem bywashlaw7_alive.calls (k : Nat)  (r : Bool) (w : World) (h : bywashlaw7_alive.f k  = some r) :
    Calls Try.prog 9 #[] w fun e w' => e = .returned (.bool r) ∧ Below w.heap.size w w' := by
  have hu23 := Try.underlying23
  have HB := Aside0.mk (Below.refl w.heap.size w)
  have H : ((frame_Put.f k 6 0 0 (⟨#[49, 50, 51, 52, 53, 54, 55, 56]⟩ : ByteArray)).bind fun bt123 => (if bt123.1.size + 1 ≤ 9223372036854775807 then ((frame_Get.f k (bt123.1 ++ (⟨#[120]⟩ : ByteArray))).bind fun bt125 => ((frame_Strip.f k 0 8 0 (⟨#[1, 97, 98]⟩ : ByteArray)).bind fun bt132 => (if bt123.2 = true then (if (bt123.1.size : Int) = 17 then (if bt125.2.2.2.2.1 = 17 then (if bt125.2.2.2.2.2 = 0 then (if bt125.2.2.2.1.toList = ([49, 50, 51, 52, 53, 54, 55, 56] : List UInt8) then (if bt132.1.toList = ([97] : List UInt8) then (if bt132.2.1 = 2 then (if bt132.2.2 = 0 then ((frame_Name.f 7).bind fun t135 => (bywashlaw7_alive.j0 k (t135.toList == ([97, 119, 97, 121] : List UInt8)))) else (bywashlaw7_alive.j0 k false)) else (bywashlaw7_alive.j0 k false)) else (bywashlaw7_alive.j0 k false)) else (bywashlaw7_alive.j0 k false)) else (bywashlaw7_alive.j0 k false)) else (bywashlaw7_alive.j0 k false)) else (bywashlaw7_alive.j0 k false)) else (bywashlaw7_alive.j0 k false)))) else (none))) = some r := h
  clear h
  replace H := Option.bind_eq_some_iff.mp H
  obtain ⟨⟨t123, t124⟩, A10, H⟩ := H
  replace H : (if t123.size + 1 ≤ 9223372036854775807 then ((frame_Get.f k (t123 ++ (⟨#[120]⟩ : ByteArray))).bind fun bt125 => ((frame_Strip.f k 0 8 0 (⟨#[1, 97, 98]⟩ : ByteArray)).bind fun bt132 => (if t124 = true then (if (t123.size : Int) = 17 then (if bt125.2.2.2.2.1 = 17 then (if bt125.2.2.2.2.2 = 0 then (if bt125.2.2.2.1.toList = ([49, 50, 51, 52, 53, 54, 55, 56] : List UInt8) then (if bt132.1.toList = ([97] : List UInt8) then (if bt132.2.1 = 2 then (if bt132.2.2 = 0 then ((frame_Name.f 7).bind fun t135 => (bywashlaw7_alive.j0 k (t135.toList == ([97, 119, 97, 121] : List UInt8)))) else (bywashlaw7_alive.j0 k false)) else (bywashlaw7_alive.j0 k false)) else (bywashlaw7_alive.j0 k false)) else (bywashlaw7_alive.j0 k false)) else (bywashlaw7_alive.j0 k false)) else (bywashlaw7_alive.j0 k false)) else (bywashlaw7_alive.j0 k false)) else (bywashlaw7_alive.j0 k false)))) else (none)) = some r := H
  have A1 := Aside0.mk A10
  clear A10
  by_cases c2 : t123.size + 1 ≤ 9223372036854775807
  · rw [if_pos c2] at H
    have c2b0 := eq_true c2
    have c2b1 : decide (t123.size + 1 ≤ 9223372036854775807) = true := decide_eq_true c2
    try have c2b2 : (9223372036854775807 < t123.size + 1) = False := eq_false (Nat.not_lt.2 c2)
    replace H := Option.bind_eq_some_iff.mp H
    obtain ⟨⟨t125, t126, t127, t128, t129, t130⟩, A30, H⟩ := H
    replace H : ((frame_Strip.f k 0 8 0 (⟨#[1, 97, 98]⟩ : ByteArray)).bind fun bt132 => (if t124 = true then (if (t123.size : Int) = 17 then (if t129 = 17 then (if t130 = 0 then (if t128.toList = ([49, 50, 51, 52, 53, 54, 55, 56] : List UInt8) then (if bt132.1.toList = ([97] : List UInt8) then (if bt132.2.1 = 2 then (if bt132.2.2 = 0 then ((frame_Name.f 7).bind fun t135 => (bywashlaw7_alive.j0 k (t135.toList == ([97, 119, 97, 121] : List UInt8)))) else (bywashlaw7_alive.j0 k false)) else (bywashlaw7_alive.j0 k false)) else (bywashlaw7_alive.j0 k false)) else (bywashlaw7_alive.j0 k false)) else (bywashlaw7_alive.j0 k false)) else (bywashlaw7_alive.j0 k false)) else (bywashlaw7_alive.j0 k false)) else (bywashlaw7_alive.j0 k false))) = some r := H
    have A3 := Aside0.mk A30
    clear A30
    replace H := Option.bind_eq_some_iff.mp H
    obtain ⟨⟨t132, t133, t134⟩, A40, H⟩ := H
    replace H : (if t124 = true then (if (t123.size : Int) = 17 then (if t129 = 17 then (if t130 = 0 then (if t128.toList = ([49, 50, 51, 52, 53, 54, 55, 56] : List UInt8) then (if t132.toList = ([97] : List UInt8) then (if t133 = 2 then (if t134 = 0 then ((frame_Name.f 7).bind fun t135 => (bywashlaw7_alive.j0 k (t135.toList == ([97, 119, 97, 121] : List UInt8)))) else (bywashlaw7_alive.j0 k false)) else (bywashlaw7_alive.j0 k false)) else (bywashlaw7_alive.j0 k false)) else (bywashlaw7_alive.j0 k false)) else (bywashlaw7_alive.j0 k false)) else (bywashlaw7_alive.j0 k false)) else (bywashlaw7_alive.j0 k false)) else (bywashlaw7_alive.j0 k false)) = some r := H
    have A4 := Aside0.mk A40
    clear A40
    have HC5 := Aside0.mk H
    clear H
    go_enter Try.func9, Try.ntmps9
    go_upto_region 4 with (first | ((with_reducible refine gate_callee (f := 10) rfl ?_); refine goesL_ (some 11) rfl rfl Try.func10 (by kernel_rfl) rfl #[.agg #[.int .i64 6, .int .i64 0, .int .i64 0, .string (⟨#[49, 50, 51, 52, 53, 54, 55, 56]⟩ : ByteArray)]] rfl (by (try simp only [List.map_toArray, List.map_cons, List.map_nil]); first | done | rfl | (simp only [List.length_drop, List.length_take]; rfl)) ?_; (with_reducible refine (frame_Put.calls k 6 0 0 (⟨#[49, 50, 51, 52, 53, 54, 55, 56]⟩ : ByteArray) t123 t124 _ A1.out).mono ?_); rintro e w6 ⟨rfl, hb⟩; refine ⟨_, rfl, ?_⟩; have n0_ := Aside0.mk (below_step (by repeat (first | (with_reducible first | exact HB.out | apply below_alloc | apply pw_below_drewN | apply below_drew1) | exact HB.out)) hb); clear HB; have HB := n0_; clear n0_; (try clear hb); (try clear hb2); (try clear hk); (try clear hi)) | ((with_reducible refine gate_callee (f := 12) rfl ?_); refine goesL_ (some 17) rfl rfl Try.func12 (by kernel_rfl) rfl #[.string (t123 ++ (⟨#[120]⟩ : ByteArray))] rfl (by (try simp only [List.map_toArray, List.map_cons, List.map_nil]); first | done | rfl | (simp only [List.length_drop, List.length_take]; rfl)) ?_; (with_reducible refine (frame_Get.calls k (t123 ++ (⟨#[120]⟩ : ByteArray)) t125 t126 t127 t128 t129 t130 _ A3.out).mono ?_); rintro e w7 ⟨rfl, hb⟩; refine ⟨_, rfl, ?_⟩; have n0_ := Aside0.mk (below_step (by repeat (first | (with_reducible first | exact HB.out | apply below_alloc | apply pw_below_drewN | apply below_drew1) | exact HB.out)) hb); clear HB; have HB := n0_; clear n0_; (try clear hb); (try clear hb2); (try clear hk); (try clear hi)) | ((with_reducible refine gate_dst (N := 3) rfl ?_); (try (refine gate_guard (by rfl) ?_; dsimp only)); refine box_event ?hg (N := 3) ?hd (cs := #[.int .i64 0, .int .i64 0, .int .i64 0, .string (⟨#[]⟩ : ByteArray)]) (t := 23) ?hr ?_; (case hd => rfl); (case hg => rfl); (case hr => first | (go_simp; done) | (go_simp; rfl)); intro gb131 hg w8 hbox hb; have n0_ := Aside0.mk (below_step (by repeat (first | (with_reducible first | exact HB.out | apply below_alloc | apply pw_below_drewN | apply below_drew1) | exact HB.out)) hb); have n1_ := Aside0.mk (hbox); have n2_ := Aside0.mk ((by rw [hg]; exact (below_size (by repeat (first | (with_reducible first | exact HB.out | apply below_alloc | apply pw_below_drewN | apply below_drew1) | exact HB.out))) : w.heap.size ≤ gb131)); have n3_ := Aside0.mk ((by rw [hg]; exact (below_size (by repeat (first | (with_reducible first | exact HB.out | apply below_alloc | apply pw_below_drewN | apply below_drew1) | exact HB.out))) : w.heap.size ≤ gb131)); clear HB; have HB := n0_; have BK131 := n1_; have GW131 := n2_; have GE131 := n3_; clear n0_ n1_ n2_ n3_; clear hb hbox hg; have hcz9_0 : w8.cell? ⟨gb131, 0, none⟩ = some (.int .i64 0) := (blk_cell BK131.out 0).trans rfl; have hcz9_1 : w8.cell? ⟨gb131, 1, none⟩ = some (.int .i64 0) := (blk_cell BK131.out 1).trans rfl; have hcz9_2 : w8.cell? ⟨gb131, 2, none⟩ = some (.int .i64 0) := (blk_cell BK131.out 2).trans rfl; have hcz9_3 : w8.cell? ⟨gb131, 3, none⟩ = some (.string (⟨#[]⟩ : ByteArray)) := (blk_cell BK131.out 3).trans rfl; have hfz9_0 := blk_frozen BK131.out 0; have hfz9_1 := blk_frozen BK131.out 1; have hfz9_2 := blk_frozen BK131.out 2; have hfz9_3 := blk_frozen BK131.out 3) | ((with_reducible refine gate_callee (f := 14) rfl ?_); refine goesL_ (some 23) rfl rfl Try.func14 (by kernel_rfl) rfl #[.agg #[.int .i64 0, .int .i64 8, .int .i64 0, .string (⟨#[1, 97, 98]⟩ : ByteArray)]] rfl (by (try simp only [List.map_toArray, List.map_cons, List.map_nil]); first | done | rfl | (simp only [List.length_drop, List.length_take]; rfl)) ?_; (with_reducible refine (frame_Strip.calls k 0 8 0 (⟨#[1, 97, 98]⟩ : ByteArray) t132 t133 t134 _ A4.out).mono ?_); rintro e w10 ⟨rfl, hb⟩; refine ⟨_, rfl, ?_⟩; have n0_ := Aside0.mk (blk_below (g := gb131) (o := .cells #[.int .i64 t125, .int .i64 t126, .int .i64 t127, .string t128] 23 (0, 0)) (by (with_reducible repeat (first | refine blk_drewN ?_ _ | refine blk_drew ?_ | refine blk_alloc ?_ _)); refine blk_put (cs := #[.int .i64 t125, .int .i64 t126, .int .i64 t127, .string (⟨#[]⟩ : ByteArray)]) ?_ 3 _ rfl; (with_reducible repeat (first | refine blk_drewN ?_ _ | refine blk_drew ?_ | refine blk_alloc ?_ _)); refine blk_put (cs := #[.int .i64 t125, .int .i64 t126, .int .i64 0, .string (⟨#[]⟩ : ByteArray)]) ?_ 2 _ rfl; (with_reducible repeat (first | refine blk_drewN ?_ _ | refine blk_drew ?_ | refine blk_alloc ?_ _)); refine blk_put (cs := #[.int .i64 t125, .int .i64 0, .int .i64 0, .string (⟨#[]⟩ : ByteArray)]) ?_ 1 _ rfl; (with_reducible repeat (first | refine blk_drewN ?_ _ | refine blk_drew ?_ | refine blk_alloc ?_ _)); refine blk_put (cs := #[.int .i64 0, .int .i64 0, .int .i64 0, .string (⟨#[]⟩ : ByteArray)]) ?_ 0 _ rfl; (with_reducible repeat (first | refine blk_drewN ?_ _ | refine blk_drew ?_ | refine blk_alloc ?_ _)); exact BK131.out) hb); have n1_ := Aside0.mk (below_step (by repeat (first | (with_reducible first | exact HB.out | apply below_alloc | apply pw_below_drewN | apply below_drew1 | refine below_set ?_ GE131.out) | exact HB.out)) hb); clear BK131; clear HB; have BK131 := n0_; have HB := n1_; clear n0_ n1_; (try clear hb); (try clear hb2); (try clear hk); (try clear hi)))
    (try simp only [Act.put, List.setIfInBounds_toArray, List.set_cons_zero, List.set_cons_succ])
    go_cut [0] (fun v0 wc => ∃ (kq : Nat) (x0_4 : Bool), v0 = .bool x0_4 ∧ Aside0 (bywashlaw7_alive.j0 kq x0_4 = some r) ∧ Aside0 (kq ≤ k) ∧ Aside0 (wc.heap[gb131]? = some (.cells #[.int .i64 t125, .int .i64 t126, .int .i64 t127, .string t128] 23 (0, 0))) ∧ Aside0 (Below w.heap.size w wc))
    case first =>
      have H := HC5.out
      clear HC5
      by_cases c11 : t124 = true
      · subst c11
        have H1 : (if (t123.size : Int) = 17 then (if t129 = 17 then (if t130 = 0 then (if t128.toList = ([49, 50, 51, 52, 53, 54, 55, 56] : List UInt8) then (if t132.toList = ([97] : List UInt8) then (if t133 = 2 then (if t134 = 0 then ((frame_Name.f 7).bind fun t135 => (bywashlaw7_alive.j0 k (t135.toList == ([97, 119, 97, 121] : List UInt8)))) else (bywashlaw7_alive.j0 k false)) else (bywashlaw7_alive.j0 k false)) else (bywashlaw7_alive.j0 k false)) else (bywashlaw7_alive.j0 k false)) else (bywashlaw7_alive.j0 k false)) else (bywashlaw7_alive.j0 k false)) else (bywashlaw7_alive.j0 k false)) = some r := by rw [if_pos rfl] at H; exact H
        clear H
        have H := H1
        clear H1
        by_cases c12 : (t123.size : Int) = 17
        · rw [if_pos c12] at H
          have c12b0 : ((t123.size : Int) == 17) = true := beq_iff_eq.mpr c12
          have c12b1 : ((t123.size : Int) != 17) = false := bne_eq_false_iff_eq.mpr c12
          clear c12
          (first | rw [c12b0] | (simp only [i64_w, i32_w]; rw [c12b0]) | skip)
          by_cases c13 : t129 = 17
          · rw [if_pos c13] at H
            have c13b0 : (t129 == 17) = true := beq_iff_eq.mpr c13
            have c13b1 : (t129 != 17) = false := bne_eq_false_iff_eq.mpr c13
            clear c13
            by_cases c14 : t130 = 0
            · rw [if_pos c14] at H
              have c14b0 : (t130 == 0) = true := beq_iff_eq.mpr c14
              have c14b1 : (t130 != 0) = false := bne_eq_false_iff_eq.mpr c14
              clear c14
              by_cases c15 : t128.toList = ([49, 50, 51, 52, 53, 54, 55, 56] : List UInt8)
              · rw [if_pos c15] at H
                have c15b0 : (t128.toList == ([49, 50, 51, 52, 53, 54, 55, 56] : List UInt8)) = true := beq_iff_eq.mpr c15
                have c15b1 : (t128.toList != ([49, 50, 51, 52, 53, 54, 55, 56] : List UInt8)) = false := bne_eq_false_iff_eq.mpr c15
                clear c15
                by_cases c16 : t132.toList = ([97] : List UInt8)
                · rw [if_pos c16] at H
                  have c16b0 : (t132.toList == ([97] : List UInt8)) = true := beq_iff_eq.mpr c16
                  have c16b1 : (t132.toList != ([97] : List UInt8)) = false := bne_eq_false_iff_eq.mpr c16
                  clear c16
                  by_cases c17 : t133 = 2
                  · rw [if_pos c17] at H
                    have c17b0 : (t133 == 2) = true := beq_iff_eq.mpr c17
                    have c17b1 : (t133 != 2) = false := bne_eq_false_iff_eq.mpr c17
                    clear c17
                    by_cases c18 : t134 = 0
                    · rw [if_pos c18] at H
                      have c18b0 : (t134 == 0) = true := beq_iff_eq.mpr c18
                      have c18b1 : (t134 != 0) = false := bne_eq_false_iff_eq.mpr c18
                      clear c18
                      replace H := Option.bind_eq_some_iff.mp H
                      obtain ⟨t135, A190, H⟩ := H
                      replace H : (bywashlaw7_alive.j0 k (t135.toList == ([97, 119, 97, 121] : List UInt8))) = some r := H
                      have A19 := Aside0.mk A190
                      clear A190
                      have H' := Aside0.mk H
                      clear H
                      have hcz20_0 : w10.cell? ⟨gb131, 0, none⟩ = some (.int .i64 t125) := (blk_cell BK131.out 0).trans rfl
                      have hcz20_1 : w10.cell? ⟨gb131, 1, none⟩ = some (.int .i64 t126) := (blk_cell BK131.out 1).trans rfl
                      have hcz20_2 : w10.cell? ⟨gb131, 2, none⟩ = some (.int .i64 t127) := (blk_cell BK131.out 2).trans rfl
                      have hcz20_3 : w10.cell? ⟨gb131, 3, none⟩ = some (.string t128) := (blk_cell BK131.out 3).trans rfl
                      have hfz20_0 := blk_frozen BK131.out 0
                      have hfz20_1 := blk_frozen BK131.out 1
                      have hfz20_2 := blk_frozen BK131.out 2
                      have hfz20_3 := blk_frozen BK131.out 3
                      go_wp2_with (first | (go_at_call 17; (with_reducible refine (frame_Name.calls 7 t135 _ A19.out).mono ?_); rintro e w21 ⟨rfl, hb⟩; have n0_ := Aside0.mk (blk_below (g := gb131) (o := .cells #[.int .i64 t125, .int .i64 t126, .int .i64 t127, .string t128] 23 (0, 0)) (by (with_reducible repeat (first | refine blk_drewN ?_ _ | refine blk_drew ?_ | refine blk_alloc ?_ _)); exact BK131.out) hb); have n1_ := Aside0.mk (below_step (by repeat (first | (with_reducible first | exact HB.out | apply below_alloc | apply pw_below_drewN | apply below_drew1 | refine below_set ?_ GE131.out) | exact HB.out)) hb); clear BK131; clear HB; have BK131 := n0_; have HB := n1_; clear n0_ n1_; (try clear hb); (try clear hb2); (try clear hk); (try clear hi)))
                      go_meet
                      case rel => exact ⟨_, ((t135.toList == ([97, 119, 97, 121] : List UInt8))), (by first | rfl | (simp; done) | (simp [*]; done)), H', ⟨by first | omega | exact Nat.le_refl _⟩, ⟨by (with_reducible repeat (first | refine blk_drewN ?_ _ | refine blk_drew ?_ | refine blk_alloc ?_ _)); exact BK131.out⟩, ⟨by repeat (first | (with_reducible first | exact HB.out | apply below_alloc | apply pw_below_drewN | apply below_drew1 | refine below_set ?_ GE131.out) | exact HB.out)⟩⟩
                    · rw [if_neg c18] at H
                      have c18b0 : (t134 == 0) = false := beq_eq_false_iff_ne.mpr c18
                      have c18b1 : (t134 != 0) = true := bne_iff_ne.mpr c18
                      have H' := Aside0.mk H
                      clear H
                      have hcz22_0 : w10.cell? ⟨gb131, 0, none⟩ = some (.int .i64 t125) := (blk_cell BK131.out 0).trans rfl
                      have hcz22_1 : w10.cell? ⟨gb131, 1, none⟩ = some (.int .i64 t126) := (blk_cell BK131.out 1).trans rfl
                      have hcz22_2 : w10.cell? ⟨gb131, 2, none⟩ = some (.int .i64 t127) := (blk_cell BK131.out 2).trans rfl
                      have hcz22_3 : w10.cell? ⟨gb131, 3, none⟩ = some (.string t128) := (blk_cell BK131.out 3).trans rfl
                      have hfz22_0 := blk_frozen BK131.out 0
                      have hfz22_1 := blk_frozen BK131.out 1
                      have hfz22_2 := blk_frozen BK131.out 2
                      have hfz22_3 := blk_frozen BK131.out 3
                      go_wp2
                      go_meet
                      case rel => exact ⟨_, (false), (by first | rfl | (simp; done) | (simp [*]; done)), H', ⟨by first | omega | exact Nat.le_refl _⟩, ⟨by (with_reducible repeat (first | refine blk_drewN ?_ _ | refine blk_drew ?_ | refine blk_alloc ?_ _)); exact BK131.out⟩, ⟨by repeat (first | (with_reducible first | exact HB.out | apply below_alloc | apply pw_below_drewN | apply below_drew1 | refine below_set ?_ GE131.out) | exact HB.out)⟩⟩
                  · rw [if_neg c17] at H
                    have c17b0 : (t133 == 2) = false := beq_eq_false_iff_ne.mpr c17
                    have c17b1 : (t133 != 2) = true := bne_iff_ne.mpr c17
                    have H' := Aside0.mk H
                    clear H
                    have hcz23_0 : w10.cell? ⟨gb131, 0, none⟩ = some (.int .i64 t125) := (blk_cell BK131.out 0).trans rfl
                    have hcz23_1 : w10.cell? ⟨gb131, 1, none⟩ = some (.int .i64 t126) := (blk_cell BK131.out 1).trans rfl
                    have hcz23_2 : w10.cell? ⟨gb131, 2, none⟩ = some (.int .i64 t127) := (blk_cell BK131.out 2).trans rfl
                    have hcz23_3 : w10.cell? ⟨gb131, 3, none⟩ = some (.string t128) := (blk_cell BK131.out 3).trans rfl
                    have hfz23_0 := blk_frozen BK131.out 0
                    have hfz23_1 := blk_frozen BK131.out 1
                    have hfz23_2 := blk_frozen BK131.out 2
                    have hfz23_3 := blk_frozen BK131.out 3
                    go_wp2
                    go_meet
                    case rel => exact ⟨_, (false), (by first | rfl | (simp; done) | (simp [*]; done)), H', ⟨by first | omega | exact Nat.le_refl _⟩, ⟨by (with_reducible repeat (first | refine blk_drewN ?_ _ | refine blk_drew ?_ | refine blk_alloc ?_ _)); exact BK131.out⟩, ⟨by repeat (first | (with_reducible first | exact HB.out | apply below_alloc | apply pw_below_drewN | apply below_drew1 | refine below_set ?_ GE131.out) | exact HB.out)⟩⟩
                · rw [if_neg c16] at H
                  have c16b0 : (t132.toList == ([97] : List UInt8)) = false := beq_eq_false_iff_ne.mpr c16
                  have c16b1 : (t132.toList != ([97] : List UInt8)) = true := bne_iff_ne.mpr c16
                  have H' := Aside0.mk H
                  clear H
                  have hcz24_0 : w10.cell? ⟨gb131, 0, none⟩ = some (.int .i64 t125) := (blk_cell BK131.out 0).trans rfl
                  have hcz24_1 : w10.cell? ⟨gb131, 1, none⟩ = some (.int .i64 t126) := (blk_cell BK131.out 1).trans rfl
                  have hcz24_2 : w10.cell? ⟨gb131, 2, none⟩ = some (.int .i64 t127) := (blk_cell BK131.out 2).trans rfl
                  have hcz24_3 : w10.cell? ⟨gb131, 3, none⟩ = some (.string t128) := (blk_cell BK131.out 3).trans rfl
                  have hfz24_0 := blk_frozen BK131.out 0
                  have hfz24_1 := blk_frozen BK131.out 1
                  have hfz24_2 := blk_frozen BK131.out 2
                  have hfz24_3 := blk_frozen BK131.out 3
                  go_wp2
                  go_meet
                  case rel => exact ⟨_, (false), (by first | rfl | (simp; done) | (simp [*]; done)), H', ⟨by first | omega | exact Nat.le_refl _⟩, ⟨by (with_reducible repeat (first | refine blk_drewN ?_ _ | refine blk_drew ?_ | refine blk_alloc ?_ _)); exact BK131.out⟩, ⟨by repeat (first | (with_reducible first | exact HB.out | apply below_alloc | apply pw_below_drewN | apply below_drew1 | refine below_set ?_ GE131.out) | exact HB.out)⟩⟩
              · rw [if_neg c15] at H
                have c15b0 : (t128.toList == ([49, 50, 51, 52, 53, 54, 55, 56] : List UInt8)) = false := beq_eq_false_iff_ne.mpr c15
                have c15b1 : (t128.toList != ([49, 50, 51, 52, 53, 54, 55, 56] : List UInt8)) = true := bne_iff_ne.mpr c15
                have H' := Aside0.mk H
                clear H
                have hcz25_0 : w10.cell? ⟨gb131, 0, none⟩ = some (.int .i64 t125) := (blk_cell BK131.out 0).trans rfl
                have hcz25_1 : w10.cell? ⟨gb131, 1, none⟩ = some (.int .i64 t126) := (blk_cell BK131.out 1).trans rfl
                have hcz25_2 : w10.cell? ⟨gb131, 2, none⟩ = some (.int .i64 t127) := (blk_cell BK131.out 2).trans rfl
                have hcz25_3 : w10.cell? ⟨gb131, 3, none⟩ = some (.string t128) := (blk_cell BK131.out 3).trans rfl
                have hfz25_0 := blk_frozen BK131.out 0
                have hfz25_1 := blk_frozen BK131.out 1
                have hfz25_2 := blk_frozen BK131.out 2
                have hfz25_3 := blk_frozen BK131.out 3
                go_wp2
                go_meet
                case rel => exact ⟨_, (false), (by first | rfl | (simp; done) | (simp [*]; done)), H', ⟨by first | omega | exact Nat.le_refl _⟩, ⟨by (with_reducible repeat (first | refine blk_drewN ?_ _ | refine blk_drew ?_ | refine blk_alloc ?_ _)); exact BK131.out⟩, ⟨by repeat (first | (with_reducible first | exact HB.out | apply below_alloc | apply pw_below_drewN | apply below_drew1 | refine below_set ?_ GE131.out) | exact HB.out)⟩⟩
            · rw [if_neg c14] at H
              have c14b0 : (t130 == 0) = false := beq_eq_false_iff_ne.mpr c14
              have c14b1 : (t130 != 0) = true := bne_iff_ne.mpr c14
              have H' := Aside0.mk H
              clear H
              go_wp2
              go_meet
              case rel => exact ⟨_, (false), (by first | rfl | (simp; done) | (simp [*]; done)), H', ⟨by first | omega | exact Nat.le_refl _⟩, ⟨by (with_reducible repeat (first | refine blk_drewN ?_ _ | refine blk_drew ?_ | refine blk_alloc ?_ _)); exact BK131.out⟩, ⟨by repeat (first | (with_reducible first | exact HB.out | apply below_alloc | apply pw_below_drewN | apply below_drew1 | refine below_set ?_ GE131.out) | exact HB.out)⟩⟩
          · rw [if_neg c13] at H
            have c13b0 : (t129 == 17) = false := beq_eq_false_iff_ne.mpr c13
            have c13b1 : (t129 != 17) = true := bne_iff_ne.mpr c13
            have H' := Aside0.mk H
            clear H
            go_wp2
            go_meet
            case rel => exact ⟨_, (false), (by first | rfl | (simp; done) | (simp [*]; done)), H', ⟨by first | omega | exact Nat.le_refl _⟩, ⟨by (with_reducible repeat (first | refine blk_drewN ?_ _ | refine blk_drew ?_ | refine blk_alloc ?_ _)); exact BK131.out⟩, ⟨by repeat (first | (with_reducible first | exact HB.out | apply below_alloc | apply pw_below_drewN | apply below_drew1 | refine below_set ?_ GE131.out) | exact HB.out)⟩⟩
        · rw [if_neg c12] at H
          have c12b0 : ((t123.size : Int) == 17) = false := beq_eq_false_iff_ne.mpr c12
          have c12b1 : ((t123.size : Int) != 17) = true := bne_iff_ne.mpr c12
          (first | rw [c12b0] | (simp only [i64_w, i32_w]; rw [c12b0]) | skip)
          have H' := Aside0.mk H
          clear H
          go_wp2
          go_meet
          case rel => exact ⟨_, (false), (by first | rfl | (simp; done) | (simp [*]; done)), H', ⟨by first | omega | exact Nat.le_refl _⟩, ⟨by (with_reducible repeat (first | refine blk_drewN ?_ _ | refine blk_drew ?_ | refine blk_alloc ?_ _)); exact BK131.out⟩, ⟨by repeat (first | (with_reducible first | exact HB.out | apply below_alloc | apply pw_below_drewN | apply below_drew1 | refine below_set ?_ GE131.out) | exact HB.out)⟩⟩
      · replace c11 := Bool.eq_false_iff.mpr c11
        subst c11
        have H1 : (bywashlaw7_alive.j0 k false) = some r := by rw [if_neg (show ¬ (false = true) by decide)] at H; exact H
        clear H
        have H := H1
        clear H1
        have H' := Aside0.mk H
        clear H
        go_wp2
        go_meet
        case rel => exact ⟨_, (false), (by first | rfl | (simp; done) | (simp [*]; done)), H', ⟨by first | omega | exact Nat.le_refl _⟩, ⟨by (with_reducible repeat (first | refine blk_drewN ?_ _ | refine blk_drew ?_ | refine blk_alloc ?_ _)); exact BK131.out⟩, ⟨by repeat (first | (with_reducible first | exact HB.out | apply below_alloc | apply pw_below_drewN | apply below_drew1 | refine below_set ?_ GE131.out) | exact HB.out)⟩⟩
    case rest =>
      clear HC5
      try clear c1
      try clear c2
      try clear c2b0
      try clear c2b1
      try clear c2b2
      try clear p2
      try clear c9
      try clear c10
      try clear c11
      try clear c12
      try clear c12b0
      try clear c12b1
      try clear c13
      try clear c13b0
      try clear c13b1
      try clear c14
      try clear c14b0
      try clear c14b1
      try clear c15
      try clear c15b0
      try clear c15b1
      try clear c16
      try clear c16b0
      try clear c16b1
      try clear c17
      try clear c17b0
      try clear c17b1
      try clear c18
      try clear c18b0
      try clear c18b1
      try clear hcz20_0
      try clear hcz20_1
      try clear hcz20_2
      try clear hcz20_3
      try clear hcz22_0
      try clear hcz22_1
      try clear hcz22_2
      try clear hcz22_3
      try clear hcz23_0
      try clear hcz23_1
      try clear hcz23_2
      try clear hcz23_3
      try clear hcz24_0
      try clear hcz24_1
      try clear hcz24_2
      try clear hcz24_3
      try clear hcz25_0
      try clear hcz25_1
      try clear hcz25_2
      try clear hcz25_3
      try clear hcz9_0
      try clear hcz9_1
      try clear hcz9_2
      try clear hcz9_3
      try clear hfz20_0
      try clear hfz20_1
      try clear hfz20_2
      try clear hfz20_3
      try clear hfz22_0
      try clear hfz22_1
      try clear hfz22_2
      try clear hfz22_3
      try clear hfz23_0
      try clear hfz23_1
      try clear hfz23_2
      try clear hfz23_3
      try clear hfz24_0
      try clear hfz24_1
      try clear hfz24_2
      try clear hfz24_3
      try clear hfz25_0
      try clear hfz25_1
      try clear hfz25_2
      try clear hfz25_3
      try clear hfz9_0
      try clear hfz9_1
      try clear hfz9_2
      try clear hfz9_3
      obtain ⟨kq, x0_4, rfl, HA, HJ4, BK131, HB⟩ := hcut
      cases kq with
      | zero => exact absurd HA.out (by simp [bywashlaw7_alive.j0])
      | succ kj4 =>
        have H := HA.out
        clear HA
        simp only [bywashlaw7_alive.j0] at H
        obtain rfl := Option.some.inj H
        go_wp2
        go_ret
        exact ⟨by first | rfl | (simp [errW_none, errW_some] <;> rfl) | (simp [*, errW_none, errW_some] <;> rfl), by repeat (first | (with_reducible first | exact HB.out | apply below_alloc | apply pw_below_drewN | apply below_drew1 | refine below_set ?_ GE131.out) | exact HB.out)⟩
  · rw [if_neg c2] at H
    exact absurd H (by simp)

/-! ### bywashref1_FrameRight: function 20 -/
def bywashref1_FrameRight.f (a0_0 : Int) (a0_1 : Int) (a0_2 : Int) (a0_3 : ByteArray) : Option (Bool) := if a0_0 ≥ 0 then (if a0_0 ≤ 255 then (if a0_1 ≥ 0 then (if a0_1 ≤ 255 then (if a0_2 ≥ 0 then (if a0_2 ≤ 2147483647 then (some (decide ((a0_3.size : Int) ≤ 16777215))) else (some false)) else (some false)) else (some false)) else (some false)) else (some false)) else (some false)
set_option maxHeartbeats 8000000 in
set_option maxRecDepth 100000 in
theorem bywashref1_FrameRight.calls (a0_0 : Int) (a0_1 : Int) (a0_2 : Int) (a0_3 : ByteArray) (r : Bool) (w : World) (h : bywashref1_FrameRight.f a0_0 a0_1 a0_2 a0_3 = some r) :
    Calls Try.prog 20 #[.agg #[.int .i64 a0_0, .int .i64 a0_1, .int .i64 a0_2, .string a0_3]] w fun e w' => e = .returned (.bool r) ∧ Below w.heap.size w w' := by
  have hu23 := Try.underlying23
  have HB := Aside0.mk (Below.refl w.heap.size w)
  have H : (if a0_0 ≥ 0 then (if a0_0 ≤ 255 then (if a0_1 ≥ 0 then (if a0_1 ≤ 255 then (if a0_2 ≥ 0 then (if a0_2 ≤ 2147483647 then (some (decide ((a0_3.size : Int) ≤ 16777215))) else (some false)) else (some false)) else (some false)) else (some false)) else (some false)) else (some false)) = some r := h
  clear h
  by_cases c2 : a0_0 ≥ 0
  · rw [if_pos c2] at H
    have c2b0 : decide (0 ≤ a0_0) = true := decide_eq_true c2
    clear c2
    by_cases c3 : a0_0 ≤ 255
    · rw [if_pos c3] at H
      have c3b0 : decide (a0_0 ≤ 255) = true := decide_eq_true c3
      clear c3
      by_cases c4 : a0_1 ≥ 0
      · rw [if_pos c4] at H
        have c4b0 : decide (0 ≤ a0_1) = true := decide_eq_true c4
        clear c4
        by_cases c5 : a0_1 ≤ 255
        · rw [if_pos c5] at H
          have c5b0 : decide (a0_1 ≤ 255) = true := decide_eq_true c5
          clear c5
          by_cases c6 : a0_2 ≥ 0
          · rw [if_pos c6] at H
            have c6b0 : decide (0 ≤ a0_2) = true := decide_eq_true c6
            clear c6
            by_cases c7 : a0_2 ≤ 2147483647
            · rw [if_pos c7] at H
              have c7b0 : decide (a0_2 ≤ 2147483647) = true := decide_eq_true c7
              clear c7
              obtain rfl := Option.some.inj H
              go_enter Try.func20, Try.ntmps20
              go_wp2_with (first | ((with_reducible refine gate_dst (N := 1) rfl ?_); (try (refine gate_guard (by rfl) ?_; dsimp only)); refine box_event ?hg (N := 1) ?hd (cs := #[.int .i64 a0_0, .int .i64 a0_1, .int .i64 a0_2, .string a0_3]) (t := 23) ?hr ?_; (case hd => rfl); (case hg => rfl); (case hr => first | (go_simp; done) | (go_simp; rfl)); intro gb136 hg w8 hbox hb; have n0_ := Aside0.mk (below_step (by repeat (first | (with_reducible first | exact HB.out | apply below_alloc | apply pw_below_drewN | apply below_drew1) | exact HB.out)) hb); have n1_ := Aside0.mk (hbox); have n2_ := Aside0.mk ((by rw [hg]; exact (below_size (by repeat (first | (with_reducible first | exact HB.out | apply below_alloc | apply pw_below_drewN | apply below_drew1) | exact HB.out))) : w.heap.size ≤ gb136)); have n3_ := Aside0.mk ((by rw [hg]; exact (below_size (by repeat (first | (with_reducible first | exact HB.out | apply below_alloc | apply pw_below_drewN | apply below_drew1) | exact HB.out))) : w.heap.size ≤ gb136)); clear HB; have HB := n0_; have BK136 := n1_; have GW136 := n2_; have GE136 := n3_; clear n0_ n1_ n2_ n3_; clear hb hbox hg; have hcz9_0 : w8.cell? ⟨gb136, 0, none⟩ = some (.int .i64 a0_0) := (blk_cell BK136.out 0).trans rfl; have hcz9_1 : w8.cell? ⟨gb136, 1, none⟩ = some (.int .i64 a0_1) := (blk_cell BK136.out 1).trans rfl; have hcz9_2 : w8.cell? ⟨gb136, 2, none⟩ = some (.int .i64 a0_2) := (blk_cell BK136.out 2).trans rfl; have hcz9_3 : w8.cell? ⟨gb136, 3, none⟩ = some (.string a0_3) := (blk_cell BK136.out 3).trans rfl; have hfz9_0 := blk_frozen BK136.out 0; have hfz9_1 := blk_frozen BK136.out 1; have hfz9_2 := blk_frozen BK136.out 2; have hfz9_3 := blk_frozen BK136.out 3))
              go_ret
              exact ⟨by first | rfl | (simp [errW_none, errW_some] <;> rfl) | (simp [*, errW_none, errW_some] <;> rfl), by repeat (first | (with_reducible first | exact HB.out | apply below_alloc | apply pw_below_drewN | apply below_drew1 | refine below_set ?_ GE136.out) | exact HB.out)⟩
            · rw [if_neg c7] at H
              have c7b0 : decide (a0_2 ≤ 2147483647) = false := decide_eq_false c7
              clear c7
              obtain rfl := Option.some.inj H
              go_enter Try.func20, Try.ntmps20
              go_wp2_with (first | ((with_reducible refine gate_dst (N := 1) rfl ?_); (try (refine gate_guard (by rfl) ?_; dsimp only)); refine box_event ?hg (N := 1) ?hd (cs := #[.int .i64 a0_0, .int .i64 a0_1, .int .i64 a0_2, .string a0_3]) (t := 23) ?hr ?_; (case hd => rfl); (case hg => rfl); (case hr => first | (go_simp; done) | (go_simp; rfl)); intro gb136 hg w10 hbox hb; have n0_ := Aside0.mk (below_step (by repeat (first | (with_reducible first | exact HB.out | apply below_alloc | apply pw_below_drewN | apply below_drew1) | exact HB.out)) hb); have n1_ := Aside0.mk (hbox); have n2_ := Aside0.mk ((by rw [hg]; exact (below_size (by repeat (first | (with_reducible first | exact HB.out | apply below_alloc | apply pw_below_drewN | apply below_drew1) | exact HB.out))) : w.heap.size ≤ gb136)); have n3_ := Aside0.mk ((by rw [hg]; exact (below_size (by repeat (first | (with_reducible first | exact HB.out | apply below_alloc | apply pw_below_drewN | apply below_drew1) | exact HB.out))) : w.heap.size ≤ gb136)); clear HB; have HB := n0_; have BK136 := n1_; have GW136 := n2_; have GE136 := n3_; clear n0_ n1_ n2_ n3_; clear hb hbox hg; have hcz11_0 : w10.cell? ⟨gb136, 0, none⟩ = some (.int .i64 a0_0) := (blk_cell BK136.out 0).trans rfl; have hcz11_1 : w10.cell? ⟨gb136, 1, none⟩ = some (.int .i64 a0_1) := (blk_cell BK136.out 1).trans rfl; have hcz11_2 : w10.cell? ⟨gb136, 2, none⟩ = some (.int .i64 a0_2) := (blk_cell BK136.out 2).trans rfl; have hcz11_3 : w10.cell? ⟨gb136, 3, none⟩ = some (.string a0_3) := (blk_cell BK136.out 3).trans rfl; have hfz11_0 := blk_frozen BK136.out 0; have hfz11_1 := blk_frozen BK136.out 1; have hfz11_2 := blk_frozen BK136.out 2; have hfz11_3 := blk_frozen BK136.out 3))
              go_ret
              exact ⟨by first | rfl | (simp [errW_none, errW_some] <;> rfl) | (simp [*, errW_none, errW_some] <;> rfl), by repeat (first | (with_reducible first | exact HB.out | apply below_alloc | apply pw_below_drewN | apply below_drew1 | refine below_set ?_ GE136.out) | exact HB.out)⟩
          · rw [if_neg c6] at H
            have c6b0 : decide (0 ≤ a0_2) = false := decide_eq_false c6
            clear c6
            obtain rfl := Option.some.inj H
            go_enter Try.func20, Try.ntmps20
            go_wp2_with (first | ((with_reducible refine gate_dst (N := 1) rfl ?_); (try (refine gate_guard (by rfl) ?_; dsimp only)); refine box_event ?hg (N := 1) ?hd (cs := #[.int .i64 a0_0, .int .i64 a0_1, .int .i64 a0_2, .string a0_3]) (t := 23) ?hr ?_; (case hd => rfl); (case hg => rfl); (case hr => first | (go_simp; done) | (go_simp; rfl)); intro gb136 hg w12 hbox hb; have n0_ := Aside0.mk (below_step (by repeat (first | (with_reducible first | exact HB.out | apply below_alloc | apply pw_below_drewN | apply below_drew1) | exact HB.out)) hb); have n1_ := Aside0.mk (hbox); have n2_ := Aside0.mk ((by rw [hg]; exact (below_size (by repeat (first | (with_reducible first | exact HB.out | apply below_alloc | apply pw_below_drewN | apply below_drew1) | exact HB.out))) : w.heap.size ≤ gb136)); have n3_ := Aside0.mk ((by rw [hg]; exact (below_size (by repeat (first | (with_reducible first | exact HB.out | apply below_alloc | apply pw_below_drewN | apply below_drew1) | exact HB.out))) : w.heap.size ≤ gb136)); clear HB; have HB := n0_; have BK136 := n1_; have GW136 := n2_; have GE136 := n3_; clear n0_ n1_ n2_ n3_; clear hb hbox hg; have hcz13_0 : w12.cell? ⟨gb136, 0, none⟩ = some (.int .i64 a0_0) := (blk_cell BK136.out 0).trans rfl; have hcz13_1 : w12.cell? ⟨gb136, 1, none⟩ = some (.int .i64 a0_1) := (blk_cell BK136.out 1).trans rfl; have hcz13_2 : w12.cell? ⟨gb136, 2, none⟩ = some (.int .i64 a0_2) := (blk_cell BK136.out 2).trans rfl; have hcz13_3 : w12.cell? ⟨gb136, 3, none⟩ = some (.string a0_3) := (blk_cell BK136.out 3).trans rfl; have hfz13_0 := blk_frozen BK136.out 0; have hfz13_1 := blk_frozen BK136.out 1; have hfz13_2 := blk_frozen BK136.out 2; have hfz13_3 := blk_frozen BK136.out 3))
            go_ret
            exact ⟨by first | rfl | (simp [errW_none, errW_some] <;> rfl) | (simp [*, errW_none, errW_some] <;> rfl), by repeat (first | (with_reducible first | exact HB.out | apply below_alloc | apply pw_below_drewN | apply below_drew1 | refine below_set ?_ GE136.out) | exact HB.out)⟩
        · rw [if_neg c5] at H
          have c5b0 : decide (a0_1 ≤ 255) = false := decide_eq_false c5
          clear c5
          obtain rfl := Option.some.inj H
          go_enter Try.func20, Try.ntmps20
          go_wp2_with (first | ((with_reducible refine gate_dst (N := 1) rfl ?_); (try (refine gate_guard (by rfl) ?_; dsimp only)); refine box_event ?hg (N := 1) ?hd (cs := #[.int .i64 a0_0, .int .i64 a0_1, .int .i64 a0_2, .string a0_3]) (t := 23) ?hr ?_; (case hd => rfl); (case hg => rfl); (case hr => first | (go_simp; done) | (go_simp; rfl)); intro gb136 hg w14 hbox hb; have n0_ := Aside0.mk (below_step (by repeat (first | (with_reducible first | exact HB.out | apply below_alloc | apply pw_below_drewN | apply below_drew1) | exact HB.out)) hb); have n1_ := Aside0.mk (hbox); have n2_ := Aside0.mk ((by rw [hg]; exact (below_size (by repeat (first | (with_reducible first | exact HB.out | apply below_alloc | apply pw_below_drewN | apply below_drew1) | exact HB.out))) : w.heap.size ≤ gb136)); have n3_ := Aside0.mk ((by rw [hg]; exact (below_size (by repeat (first | (with_reducible first | exact HB.out | apply below_alloc | apply pw_below_drewN | apply below_drew1) | exact HB.out))) : w.heap.size ≤ gb136)); clear HB; have HB := n0_; have BK136 := n1_; have GW136 := n2_; have GE136 := n3_; clear n0_ n1_ n2_ n3_; clear hb hbox hg; have hcz15_0 : w14.cell? ⟨gb136, 0, none⟩ = some (.int .i64 a0_0) := (blk_cell BK136.out 0).trans rfl; have hcz15_1 : w14.cell? ⟨gb136, 1, none⟩ = some (.int .i64 a0_1) := (blk_cell BK136.out 1).trans rfl; have hcz15_2 : w14.cell? ⟨gb136, 2, none⟩ = some (.int .i64 a0_2) := (blk_cell BK136.out 2).trans rfl; have hcz15_3 : w14.cell? ⟨gb136, 3, none⟩ = some (.string a0_3) := (blk_cell BK136.out 3).trans rfl; have hfz15_0 := blk_frozen BK136.out 0; have hfz15_1 := blk_frozen BK136.out 1; have hfz15_2 := blk_frozen BK136.out 2; have hfz15_3 := blk_frozen BK136.out 3))
          go_ret
          exact ⟨by first | rfl | (simp [errW_none, errW_some] <;> rfl) | (simp [*, errW_none, errW_some] <;> rfl), by repeat (first | (with_reducible first | exact HB.out | apply below_alloc | apply pw_below_drewN | apply below_drew1 | refine below_set ?_ GE136.out) | exact HB.out)⟩
      · rw [if_neg c4] at H
        have c4b0 : decide (0 ≤ a0_1) = false := decide_eq_false c4
        clear c4
        obtain rfl := Option.some.inj H
        go_enter Try.func20, Try.ntmps20
        go_wp2_with (first | ((with_reducible refine gate_dst (N := 1) rfl ?_); (try (refine gate_guard (by rfl) ?_; dsimp only)); refine box_event ?hg (N := 1) ?hd (cs := #[.int .i64 a0_0, .int .i64 a0_1, .int .i64 a0_2, .string a0_3]) (t := 23) ?hr ?_; (case hd => rfl); (case hg => rfl); (case hr => first | (go_simp; done) | (go_simp; rfl)); intro gb136 hg w16 hbox hb; have n0_ := Aside0.mk (below_step (by repeat (first | (with_reducible first | exact HB.out | apply below_alloc | apply pw_below_drewN | apply below_drew1) | exact HB.out)) hb); have n1_ := Aside0.mk (hbox); have n2_ := Aside0.mk ((by rw [hg]; exact (below_size (by repeat (first | (with_reducible first | exact HB.out | apply below_alloc | apply pw_below_drewN | apply below_drew1) | exact HB.out))) : w.heap.size ≤ gb136)); have n3_ := Aside0.mk ((by rw [hg]; exact (below_size (by repeat (first | (with_reducible first | exact HB.out | apply below_alloc | apply pw_below_drewN | apply below_drew1) | exact HB.out))) : w.heap.size ≤ gb136)); clear HB; have HB := n0_; have BK136 := n1_; have GW136 := n2_; have GE136 := n3_; clear n0_ n1_ n2_ n3_; clear hb hbox hg; have hcz17_0 : w16.cell? ⟨gb136, 0, none⟩ = some (.int .i64 a0_0) := (blk_cell BK136.out 0).trans rfl; have hcz17_1 : w16.cell? ⟨gb136, 1, none⟩ = some (.int .i64 a0_1) := (blk_cell BK136.out 1).trans rfl; have hcz17_2 : w16.cell? ⟨gb136, 2, none⟩ = some (.int .i64 a0_2) := (blk_cell BK136.out 2).trans rfl; have hcz17_3 : w16.cell? ⟨gb136, 3, none⟩ = some (.string a0_3) := (blk_cell BK136.out 3).trans rfl; have hfz17_0 := blk_frozen BK136.out 0; have hfz17_1 := blk_frozen BK136.out 1; have hfz17_2 := blk_frozen BK136.out 2; have hfz17_3 := blk_frozen BK136.out 3))
        go_ret
        exact ⟨by first | rfl | (simp [errW_none, errW_some] <;> rfl) | (simp [*, errW_none, errW_some] <;> rfl), by repeat (first | (with_reducible first | exact HB.out | apply below_alloc | apply pw_below_drewN | apply below_drew1 | refine below_set ?_ GE136.out) | exact HB.out)⟩
    · rw [if_neg c3] at H
      have c3b0 : decide (a0_0 ≤ 255) = false := decide_eq_false c3
      clear c3
      obtain rfl := Option.some.inj H
      go_enter Try.func20, Try.ntmps20
      go_wp2_with (first | ((with_reducible refine gate_dst (N := 1) rfl ?_); (try (refine gate_guard (by rfl) ?_; dsimp only)); refine box_event ?hg (N := 1) ?hd (cs := #[.int .i64 a0_0, .int .i64 a0_1, .int .i64 a0_2, .string a0_3]) (t := 23) ?hr ?_; (case hd => rfl); (case hg => rfl); (case hr => first | (go_simp; done) | (go_simp; rfl)); intro gb136 hg w18 hbox hb; have n0_ := Aside0.mk (below_step (by repeat (first | (with_reducible first | exact HB.out | apply below_alloc | apply pw_below_drewN | apply below_drew1) | exact HB.out)) hb); have n1_ := Aside0.mk (hbox); have n2_ := Aside0.mk ((by rw [hg]; exact (below_size (by repeat (first | (with_reducible first | exact HB.out | apply below_alloc | apply pw_below_drewN | apply below_drew1) | exact HB.out))) : w.heap.size ≤ gb136)); have n3_ := Aside0.mk ((by rw [hg]; exact (below_size (by repeat (first | (with_reducible first | exact HB.out | apply below_alloc | apply pw_below_drewN | apply below_drew1) | exact HB.out))) : w.heap.size ≤ gb136)); clear HB; have HB := n0_; have BK136 := n1_; have GW136 := n2_; have GE136 := n3_; clear n0_ n1_ n2_ n3_; clear hb hbox hg; have hcz19_0 : w18.cell? ⟨gb136, 0, none⟩ = some (.int .i64 a0_0) := (blk_cell BK136.out 0).trans rfl; have hcz19_1 : w18.cell? ⟨gb136, 1, none⟩ = some (.int .i64 a0_1) := (blk_cell BK136.out 1).trans rfl; have hcz19_2 : w18.cell? ⟨gb136, 2, none⟩ = some (.int .i64 a0_2) := (blk_cell BK136.out 2).trans rfl; have hcz19_3 : w18.cell? ⟨gb136, 3, none⟩ = some (.string a0_3) := (blk_cell BK136.out 3).trans rfl; have hfz19_0 := blk_frozen BK136.out 0; have hfz19_1 := blk_frozen BK136.out 1; have hfz19_2 := blk_frozen BK136.out 2; have hfz19_3 := blk_frozen BK136.out 3))
      go_ret
      exact ⟨by first | rfl | (simp [errW_none, errW_some] <;> rfl) | (simp [*, errW_none, errW_some] <;> rfl), by repeat (first | (with_reducible first | exact HB.out | apply below_alloc | apply pw_below_drewN | apply below_drew1 | refine below_set ?_ GE136.out) | exact HB.out)⟩
  · rw [if_neg c2] at H
    have c2b0 : decide (0 ≤ a0_0) = false := decide_eq_false c2
    clear c2
    obtain rfl := Option.some.inj H
    go_enter Try.func20, Try.ntmps20
    go_wp2_with (first | ((with_reducible refine gate_dst (N := 1) rfl ?_); (try (refine gate_guard (by rfl) ?_; dsimp only)); refine box_event ?hg (N := 1) ?hd (cs := #[.int .i64 a0_0, .int .i64 a0_1, .int .i64 a0_2, .string a0_3]) (t := 23) ?hr ?_; (case hd => rfl); (case hg => rfl); (case hr => first | (go_simp; done) | (go_simp; rfl)); intro gb136 hg w20 hbox hb; have n0_ := Aside0.mk (below_step (by repeat (first | (with_reducible first | exact HB.out | apply below_alloc | apply pw_below_drewN | apply below_drew1) | exact HB.out)) hb); have n1_ := Aside0.mk (hbox); have n2_ := Aside0.mk ((by rw [hg]; exact (below_size (by repeat (first | (with_reducible first | exact HB.out | apply below_alloc | apply pw_below_drewN | apply below_drew1) | exact HB.out))) : w.heap.size ≤ gb136)); have n3_ := Aside0.mk ((by rw [hg]; exact (below_size (by repeat (first | (with_reducible first | exact HB.out | apply below_alloc | apply pw_below_drewN | apply below_drew1) | exact HB.out))) : w.heap.size ≤ gb136)); clear HB; have HB := n0_; have BK136 := n1_; have GW136 := n2_; have GE136 := n3_; clear n0_ n1_ n2_ n3_; clear hb hbox hg; have hcz21_0 : w20.cell? ⟨gb136, 0, none⟩ = some (.int .i64 a0_0) := (blk_cell BK136.out 0).trans rfl; have hcz21_1 : w20.cell? ⟨gb136, 1, none⟩ = some (.int .i64 a0_1) := (blk_cell BK136.out 1).trans rfl; have hcz21_2 : w20.cell? ⟨gb136, 2, none⟩ = some (.int .i64 a0_2) := (blk_cell BK136.out 2).trans rfl; have hcz21_3 : w20.cell? ⟨gb136, 3, none⟩ = some (.string a0_3) := (blk_cell BK136.out 3).trans rfl; have hfz21_0 := blk_frozen BK136.out 0; have hfz21_1 := blk_frozen BK136.out 1; have hfz21_2 := blk_frozen BK136.out 2; have hfz21_3 := blk_frozen BK136.out 3))
    go_ret
    exact ⟨by first | rfl | (simp [errW_none, errW_some] <;> rfl) | (simp [*, errW_none, errW_some] <;> rfl), by repeat (first | (with_reducible first | exact HB.out | apply below_alloc | apply pw_below_drewN | apply below_drew1 | refine below_set ?_ GE136.out) | exact HB.out)⟩

/-! ### bywashref1_Big: function 21 -/
def bywashref1_Big.l0 : Nat → Int → List Int → Int → Option (ByteArray)
  | 0, _, _, _ => none
  | k + 1, x0, x5, x6 => if x6 ≥ 0 then (if 0 ≤ x6 then (if x6 < (x5.length : Int) then (bywashref1_Big.l0 k (x0 / 256) (x5.set (x6 : Int).toNat ((Go.bits .and .i64 x0 255) % 256)) (wrap64 (x6 - 1))) else (none)) else (none)) else (some (strOfNums x5))
def bywashref1_Big.f (k : Nat) (a0 : Int) (a1 : Int) : Option (ByteArray) := if 0 ≤ a1 then (if (a1 : Int).toNat ≤ 281474976710656 then (bywashref1_Big.l0 k a0 (List.replicate (a1 : Int).toNat 0) (wrap64 (a1 - 1))) else (none)) else (none)
theorem bywashref1_Big.mono_l : ∀ k, (∀ y0 y1 y2, LeO (bywashref1_Big.l0 k y0 y1 y2) (bywashref1_Big.l0 (k + 1) y0 y1 y2))
  | 0 => fun _ _ _ r h => by simp [bywashref1_Big.l0] at h
  | k + 1 => by
    have ih0 := bywashref1_Big.mono_l k
    · intro y0 y1 y2
      unfold bywashref1_Big.l0
      repeat' first
      | (with_reducible exact ih0 _ _ _)
      | (with_reducible exact LeO.refl _)
      | (with_reducible exact LeO.none _)
      | (with_reducible refine LeO.ite ?_ ?_)
      | (with_reducible refine LeO.bind ?_ (fun _ => ?_))
      | exact ih0 _ _ _
      | exact LeO.none _
      | refine LeO.ite ?_ ?_
      | refine LeO.bind ?_ (fun _ => ?_)
theorem bywashref1_Big.mono : ∀ a0 a1 k, LeO (bywashref1_Big.f k a0 a1) (bywashref1_Big.f (k + 1) a0 a1) := by
  intro a0 a1 k
  have ih0 := bywashref1_Big.mono_l k
  unfold bywashref1_Big.f
  repeat' first
      | (with_reducible exact ih0 _ _ _)
      | (with_reducible exact LeO.refl _)
      | (with_reducible exact LeO.none _)
      | (with_reducible refine LeO.ite ?_ ?_)
      | (with_reducible refine LeO.bind ?_ (fun _ => ?_))
      | exact ih0 _ _ _
      | exact LeO.none _
      | refine LeO.ite ?_ ?_
      | refine LeO.bind ?_ (fun _ => ?_)
set_option maxHeartbeats 8000000 in
set_option maxRecDepth 100000 in
theorem bywashref1_Big.calls (k : Nat) (a0 : Int) (a1 : Int) (r : ByteArray) (w : World) (h : bywashref1_Big.f k a0 a1 = some r) :
    Calls Try.prog 21 #[.int .i64 a0, .int .i64 a1] w fun e w' => e = .returned (.string r) ∧ Below w.heap.size w w' := by
  have HB := Aside0.mk (Below.refl w.heap.size w)
  have H : (if 0 ≤ a1 then (if (a1 : Int).toNat ≤ 281474976710656 then (bywashref1_Big.l0 k a0 (List.replicate (a1 : Int).toNat 0) (wrap64 (a1 - 1))) else (none)) else (none)) = some r := h
  clear h
  by_cases c3 : 0 ≤ a1
  · rw [if_pos c3] at H
    have c3b0 := eq_true c3
    have c3b1 : decide (0 ≤ a1) = true := decide_eq_true c3
    clear c3
    by_cases c4 : (a1 : Int).toNat ≤ 281474976710656
    · rw [if_pos c4] at H
      have c4b0 := eq_true c4
      have c4b1 : decide ((a1 : Int).toNat ≤ 281474976710656) = true := decide_eq_true c4
      clear c4
      obtain ⟨y137, hy137⟩ : ∃ y_ : List Int, y_ = (List.replicate (a1 : Int).toNat 0) := ⟨_, rfl⟩
      replace H : (bywashref1_Big.l0 k a0 y137 (wrap64 (a1 - 1))) = some r := by first | (rw [hy137]; with_reducible exact H) | (have H2_ := (Option.bind_some _ _).symm.trans H; rw [hy137]; with_reducible exact H2_) | (have H2_ := (Option.bind_some _ _).symm.trans H; with_reducible exact H2_) | with_reducible exact H | (rw [hy137]; exact H) | exact H
      have Ny137 := Aside0.mk hy137
      clear hy137
      have H' := Aside0.mk H
      clear H
      go_enter Try.func21, Try.ntmps21
      go_wp2_with (first | ((with_reducible refine gate_dst (N := 8) rfl ?_); refine Kd.R_make (Kd.int .u8) _ 5 rfl (N := 8) rfl 35 _ _ rfl a1 rfl rfl Try.underlying35 (.int .u8 0) 1 info5 rfl (by decide) (by omega) 0 (ok := fun _ => True) (okp := fun _ => True) rfl (fun _ hk => hk) trivial (of_decide_eq_true (by first | (with_reducible assumption) | assumption)) (Nat.le_trans (Nat.mul_le_mul_right _ (of_decide_eq_true (by first | (with_reducible assumption) | assumption) : a1.toNat ≤ 281474976710656)) (by omega)) (Below.refl _ _) (Nat.le_refl _) ?_; intro v138 w5 ho6 hb hg_ hnew_; clear hg_ hnew_; (first | rw [← Ny137.out] at ho6 | (simp only [Int.reduceToNat] at ho6; rw [← Ny137.out] at ho6)); have n0_ := Aside0.mk (Kd.R_lower ho6 (below_size (by repeat (first | (with_reducible first | exact HB.out | apply below_alloc | apply pw_below_drewN | apply below_drew1) | exact HB.out)))); have n1_ := Aside0.mk (below_step (by repeat (first | (with_reducible first | exact HB.out | apply below_alloc | apply pw_below_drewN | apply below_drew1) | exact HB.out)) hb); clear HB; have HO139 := n0_; have HB := n1_; clear n0_ n1_; clear hb ho6))
      go_loopg [0, 6] k (fun kq v0 v6 w' => ∃ (x0_1 : Int) (x5_1 : List Int) (x6_1 : Int), v0 = .int .i64 x0_1 ∧ v6 = .int .i64 x6_1 ∧ Aside0 (bywashref1_Big.l0 kq x0_1 x5_1 x6_1 = some r) ∧ Aside0 (kq ≤ k) ∧ Aside0 (Kd.R (Kd.int .u8) 5 w' w.heap.size (fun _ => True) v138 x5_1) ∧ Aside0 (Below w.heap.size w w'))
      case atStart => exact ⟨(a0), (y137), (wrap64 (a1 - 1)), (by first | rfl | (simp; done) | (simp [*]; done)), (by first | rfl | (simp; done) | (simp [*]; done)), H', ⟨Nat.le_refl _⟩, ⟨by (with_reducible repeat (first | apply Kd.R_alloc | apply Kd.R_drewN | apply Kd.R_drew)); exact HO139.out⟩, ⟨by repeat (first | (with_reducible first | exact HB.out | apply below_alloc | apply pw_below_drewN | apply below_drew1) | exact HB.out)⟩⟩
      case round =>
        clear H'
        try clear c2
        try clear p2
        try clear c3
        try clear c3b0
        try clear c3b1
        try clear c4
        try clear c4b0
        try clear c4b1
        try clear p6
        obtain ⟨x0_1, x5_1, x6_1, rfl, rfl, HA, HK1, HO_5, HB⟩ := hrel
        cases gk with
        | zero => exact absurd HA.out (by simp [bywashref1_Big.l0])
        | succ k1 =>
          have H := HA.out
          clear HA
          simp only [bywashref1_Big.l0] at H
          by_cases c7 : x6_1 ≥ 0
          · rw [if_pos c7] at H
            have c7b0 : decide (0 ≤ x6_1) = true := decide_eq_true c7
            clear c7
            by_cases c8 : 0 ≤ x6_1
            · rw [if_pos c8] at H
              have c8b0 : decide (0 ≤ x6_1) = true := decide_eq_true c8
              clear c8
              by_cases c9 : x6_1 < (x5_1.length : Int)
              · rw [if_pos c9] at H
                have c9b0 : decide (x6_1 < (x5_1.length : Int)) = true := decide_eq_true c9
                clear c9
                obtain ⟨y140, hy140⟩ : ∃ y_ : List Int, y_ = (x5_1.set (x6_1 : Int).toNat ((Go.bits .and .i64 x0_1 255) % 256)) := ⟨_, rfl⟩
                replace H : (bywashref1_Big.l0 k1 (x0_1 / 256) y140 (wrap64 (x6_1 - 1))) = some r := by first | (rw [hy140]; with_reducible exact H) | (have H2_ := (Option.bind_some _ _).symm.trans H; rw [hy140]; with_reducible exact H2_) | (have H2_ := (Option.bind_some _ _).symm.trans H; with_reducible exact H2_) | with_reducible exact H | (rw [hy140]; exact H) | exact H
                have Ny140 := Aside0.mk hy140
                clear hy140
                have H' := Aside0.mk H
                clear H
                have p10 : 0 ≤ (x6_1 : Int) := of_decide_eq_true (by first | (with_reducible assumption) | assumption)
                have q10 : (x6_1 : Int) < ((x5_1.length : Int) : Int) := of_decide_eq_true (by first | (with_reducible assumption) | assumption)
                obtain ⟨go10, co10, eo10, gb10, gl10, cl10, HG10⟩ := Kd.R_form HO_5.out (by omega)
                (first | cases eo10 | (injection eo10 with ea_ en_ ec_; (first | subst ea_ | (injection ea_ with ea_; subst ea_)); subst ec_; clear en_))
                have GB10 := Aside0.mk gb10
                have GG10 := Aside0.mk HG10
                clear gb10 gl10 HG10
                obtain ⟨hx10_0, hf10_0⟩ := Kd.R_celln 0 HO_5.out (x6_1 : Int) p10 q10
                replace p10 := eq_true p10
                replace q10 := eq_true q10
                have HP11 := Kd.R_putg HO_5.out (x6_1 : Int) ((Go.bits .and .i64 x0_1 255) % 256)
                go_wp2_with (first | ((with_reducible refine gate_store (t := 5) (p := 20) rfl ?_); refine store_event (t := 5) (p := 20) (v := ?vo_w12) (w1 := (wr.setCell ⟨go10, (x6_1 : Int).toNat, none⟩ (.int .u8 ((Go.bits .and .i64 x0_1 255) % 256)))) ?hg ?ho ?hn ?hr ?_; (case ho => rfl); (case hg => rfl); (case hn => rfl); (case hr => first | (go_simp; done) | (go_simp; rfl)); intro w12 hw; have hg : wr.grownBy w12 (some go10) := (by rw [hw]; exact HP11.2); have hp_ : Kd.R (Kd.int .u8) 5 w12 w.heap.size (fun _ => True) (.slice (some ⟨go10, 0, none⟩) x5_1.length co10) y140 := (by rw [hw, Ny140.out]; exact HP11.1); clear HP11; have n0_ := Aside0.mk (hp_); have n1_ := Aside0.mk ((by rw [hw]; exact below_set (HB.out) GB10.out : Below w.heap.size w w12)); clear HO_5; clear HB; have HO_5 := n0_; have HB := n1_; clear n0_ n1_; clear hg hw hp_))
                go_roundg k1
                case measure => have := HK1.out; omega
                case rel => exact ⟨(x0_1 / 256), (y140), (wrap64 (x6_1 - 1)), (by first | rfl | (simp; done) | (simp [*]; done)), (by first | rfl | (simp; done) | (simp [*]; done)), H', ⟨by have := HK1.out; omega⟩, ⟨by (with_reducible repeat (first | apply Kd.R_alloc | apply Kd.R_drewN | apply Kd.R_drew)); exact HO_5.out⟩, ⟨by repeat (first | (with_reducible first | exact HB.out | apply below_alloc | apply pw_below_drewN | apply below_drew1) | exact HB.out)⟩⟩
              · rw [if_neg c9] at H
                exact absurd H (by simp)
            · rw [if_neg c8] at H
              exact absurd H (by simp)
          · rw [if_neg c7] at H
            have c7b0 : decide (0 ≤ x6_1) = false := decide_eq_false c7
            clear c7
            obtain rfl := Option.some.inj H
            have hcv13 := own_string (P := Try.prog) Try.underlying35 Try.underlying5 Try.underlying9 (Kd.own_of_R HO_5.out)
            go_wp2
            go_ret
            exact ⟨by first | rfl | (simp [errW_none, errW_some] <;> rfl) | (simp [*, errW_none, errW_some] <;> rfl), by repeat (first | (with_reducible first | exact HB.out | apply below_alloc | apply pw_below_drewN | apply below_drew1) | exact HB.out)⟩
    · rw [if_neg c4] at H
      exact absurd H (by simp)
  · rw [if_neg c3] at H
    exact absurd H (by simp)

/-! ### bywashref1_FramePut: function 11 -/
def bywashref1_FramePut.f (k : Nat) (a0_0 : Int) (a0_1 : Int) (a0_2 : Int) (a0_3 : ByteArray) : Option (ByteArray × Bool) := (bywashref1_FrameRight.f a0_0 a0_1 a0_2 a0_3).bind fun t142 => (if t142 = true then ((bywashref1_Big.f k (a0_3.size : Int) 3).bind fun t143 => ((bywashref1_Big.f k a0_0 1).bind fun t144 => (if t143.size + t144.size ≤ 9223372036854775807 then ((bywashref1_Big.f k a0_1 1).bind fun t145 => (if (t143 ++ t144).size + t145.size ≤ 9223372036854775807 then ((bywashref1_Big.f k a0_2 4).bind fun t146 => (if ((t143 ++ t144) ++ t145).size + t146.size ≤ 9223372036854775807 then (if (((t143 ++ t144) ++ t145) ++ t146).size + a0_3.size ≤ 9223372036854775807 then (some ((((t143 ++ t144) ++ t145) ++ t146) ++ a0_3, true)) else (none)) else (none))) else (none))) else (none)))) else (some ((⟨#[]⟩ : ByteArray), false)))
theorem bywashref1_FramePut.mono : ∀ a0 a1 a2 a3 k, LeO (bywashref1_FramePut.f k a0 a1 a2 a3) (bywashref1_FramePut.f (k + 1) a0 a1 a2 a3) := by
  intro a0 a1 a2 a3 k
  unfold bywashref1_FramePut.f
  repeat' first
      | (with_reducible exact bywashref1_Big.mono _ _ _)
      | (with_reducible exact LeO.refl _)
      | (with_reducible exact LeO.none _)
      | (with_reducible refine LeO.ite ?_ ?_)
      | (with_reducible refine LeO.bind ?_ (fun _ => ?_))
      | exact bywashref1_Big.mono _ _ _
      | exact LeO.none _
      | refine LeO.ite ?_ ?_
      | refine LeO.bind ?_ (fun _ => ?_)
def bywashref1_FramePut.T3 : Bool × List (List Nat × List Nat) := (true, [([], []), ([0], [0]), ([1], [1]), ([2], [2]), ([], []), ([4], [4]), ([5, 3], [5]), ([3, 6], [3, 6]), ([], []), ([8], [8]), ([9, 6], [9]), ([7, 10], [7, 10]), ([], []), ([12], [12]), ([13, 10], [13]), ([11, 14], [11, 14]), ([], []), ([16], [16]), ([15, 17], [15, 17]), ([18, 14, 0, 1, 2, 3, 4, 5, 6, 7, 8, 9, 10, 11, 12, 13, 14, 15, 16, 17, 18], [18]), ([19, 0, 1, 2, 3, 4, 5, 6, 7, 8, 9, 10, 11, 12, 13, 14, 15, 16, 17, 18, 19], [])])
def bywashref1_FramePut.B3 : List Nat := [0, 1, 3, 7, 0, 16, 63, 127, 0, 256, 895, 2047, 0, 4096, 14207, 32767, 0, 65536, 262143, 524287, 1048575]
theorem bywashref1_FramePut.tab3 : rtab .any (opsOf Try.f11 3) = bywashref1_FramePut.T3 := by kernel_rfl
theorem bywashref1_FramePut.bits3 : waitsOk bywashref1_FramePut.T3.2 bywashref1_FramePut.B3 = true := by kernel_rfl
set_option maxHeartbeats 8000000 in
set_option maxRecDepth 100000 in
theorem bywashref1_FramePut.calls (k : Nat) (a0_0 : Int) (a0_1 : Int) (a0_2 : Int) (a0_3 : ByteArray) (r1 : ByteArray) (r2 : Bool) (w : World) (h : bywashref1_FramePut.f k a0_0 a0_1 a0_2 a0_3 = some (r1, r2)) :
    Calls Try.prog 11 #[.agg #[.int .i64 a0_0, .int .i64 a0_1, .int .i64 a0_2, .string a0_3]] w fun e w' => e = .returned (.tuple #[.string r1, .bool r2]) ∧ Below w.heap.size w w' := by
  have hu23 := Try.underlying23
  have HB := Aside0.mk (Below.refl w.heap.size w)
  have H : ((bywashref1_FrameRight.f a0_0 a0_1 a0_2 a0_3).bind fun t142 => (if t142 = true then ((bywashref1_Big.f k (a0_3.size : Int) 3).bind fun t143 => ((bywashref1_Big.f k a0_0 1).bind fun t144 => (if t143.size + t144.size ≤ 9223372036854775807 then ((bywashref1_Big.f k a0_1 1).bind fun t145 => (if (t143 ++ t144).size + t145.size ≤ 9223372036854775807 then ((bywashref1_Big.f k a0_2 4).bind fun t146 => (if ((t143 ++ t144) ++ t145).size + t146.size ≤ 9223372036854775807 then (if (((t143 ++ t144) ++ t145) ++ t146).size + a0_3.size ≤ 9223372036854775807 then (some ((((t143 ++ t144) ++ t145) ++ t146) ++ a0_3, true)) else (none)) else (none))) else (none))) else (none)))) else (some ((⟨#[]⟩ : ByteArray), false)))) = some (r1, r2) := h
  clear h
  replace H := Option.bind_eq_some_iff.mp H
  obtain ⟨t142, A20, H⟩ := H
  replace H : (if t142 = true then ((bywashref1_Big.f k (a0_3.size : Int) 3).bind fun t143 => ((bywashref1_Big.f k a0_0 1).bind fun t144 => (if t143.size + t144.size ≤ 9223372036854775807 then ((bywashref1_Big.f k a0_1 1).bind fun t145 => (if (t143 ++ t144).size + t145.size ≤ 9223372036854775807 then ((bywashref1_Big.f k a0_2 4).bind fun t146 => (if ((t143 ++ t144) ++ t145).size + t146.size ≤ 9223372036854775807 then (if (((t143 ++ t144) ++ t145) ++ t146).size + a0_3.size ≤ 9223372036854775807 then (some ((((t143 ++ t144) ++ t145) ++ t146) ++ a0_3, true)) else (none)) else (none))) else (none))) else (none)))) else (some ((⟨#[]⟩ : ByteArray), false))) = some (r1, r2) := H
  have A2 := Aside0.mk A20
  clear A20
  by_cases c3 : t142 = true
  · subst c3
    have H1 : ((bywashref1_Big.f k (a0_3.size : Int) 3).bind fun t143 => ((bywashref1_Big.f k a0_0 1).bind fun t144 => (if t143.size + t144.size ≤ 9223372036854775807 then ((bywashref1_Big.f k a0_1 1).bind fun t145 => (if (t143 ++ t144).size + t145.size ≤ 9223372036854775807 then ((bywashref1_Big.f k a0_2 4).bind fun t146 => (if ((t143 ++ t144) ++ t145).size + t146.size ≤ 9223372036854775807 then (if (((t143 ++ t144) ++ t145) ++ t146).size + a0_3.size ≤ 9223372036854775807 then (some ((((t143 ++ t144) ++ t145) ++ t146) ++ a0_3, true)) else (none)) else (none))) else (none))) else (none)))) = some (r1, r2) := by rw [if_pos rfl] at H; exact H
    clear H
    have H := H1
    clear H1
    replace H := Option.bind_eq_some_iff.mp H
    obtain ⟨t143, A40, H⟩ := H
    replace H : ((bywashref1_Big.f k a0_0 1).bind fun t144 => (if t143.size + t144.size ≤ 9223372036854775807 then ((bywashref1_Big.f k a0_1 1).bind fun t145 => (if (t143 ++ t144).size + t145.size ≤ 9223372036854775807 then ((bywashref1_Big.f k a0_2 4).bind fun t146 => (if ((t143 ++ t144) ++ t145).size + t146.size ≤ 9223372036854775807 then (if (((t143 ++ t144) ++ t145) ++ t146).size + a0_3.size ≤ 9223372036854775807 then (some ((((t143 ++ t144) ++ t145) ++ t146) ++ a0_3, true)) else (none)) else (none))) else (none))) else (none))) = some (r1, r2) := H
    have A4 := Aside0.mk A40
    clear A40
    replace H := Option.bind_eq_some_iff.mp H
    obtain ⟨t144, A50, H⟩ := H
    replace H : (if t143.size + t144.size ≤ 9223372036854775807 then ((bywashref1_Big.f k a0_1 1).bind fun t145 => (if (t143 ++ t144).size + t145.size ≤ 9223372036854775807 then ((bywashref1_Big.f k a0_2 4).bind fun t146 => (if ((t143 ++ t144) ++ t145).size + t146.size ≤ 9223372036854775807 then (if (((t143 ++ t144) ++ t145) ++ t146).size + a0_3.size ≤ 9223372036854775807 then (some ((((t143 ++ t144) ++ t145) ++ t146) ++ a0_3, true)) else (none)) else (none))) else (none))) else (none)) = some (r1, r2) := H
    have A5 := Aside0.mk A50
    clear A50
    by_cases c6 : t143.size + t144.size ≤ 9223372036854775807
    · rw [if_pos c6] at H
      have c6b0 := eq_true c6
      have c6b1 : decide (t143.size + t144.size ≤ 9223372036854775807) = true := decide_eq_true c6
      try have c6b2 : (9223372036854775807 < t143.size + t144.size) = False := eq_false (Nat.not_lt.2 c6)
      replace H := Option.bind_eq_some_iff.mp H
      obtain ⟨t145, A70, H⟩ := H
      replace H : (if (t143 ++ t144).size + t145.size ≤ 9223372036854775807 then ((bywashref1_Big.f k a0_2 4).bind fun t146 => (if ((t143 ++ t144) ++ t145).size + t146.size ≤ 9223372036854775807 then (if (((t143 ++ t144) ++ t145) ++ t146).size + a0_3.size ≤ 9223372036854775807 then (some ((((t143 ++ t144) ++ t145) ++ t146) ++ a0_3, true)) else (none)) else (none))) else (none)) = some (r1, r2) := H
      have A7 := Aside0.mk A70
      clear A70
      by_cases c8 : (t143 ++ t144).size + t145.size ≤ 9223372036854775807
      · rw [if_pos c8] at H
        have c8b0 := eq_true c8
        have c8b1 : decide ((t143 ++ t144).size + t145.size ≤ 9223372036854775807) = true := decide_eq_true c8
        try have c8b2 : (9223372036854775807 < (t143 ++ t144).size + t145.size) = False := eq_false (Nat.not_lt.2 c8)
        (try (have c8n := c8b2; simp only [ByteArray.size_append] at c8n))
        replace H := Option.bind_eq_some_iff.mp H
        obtain ⟨t146, A90, H⟩ := H
        replace H : (if ((t143 ++ t144) ++ t145).size + t146.size ≤ 9223372036854775807 then (if (((t143 ++ t144) ++ t145) ++ t146).size + a0_3.size ≤ 9223372036854775807 then (some ((((t143 ++ t144) ++ t145) ++ t146) ++ a0_3, true)) else (none)) else (none)) = some (r1, r2) := H
        have A9 := Aside0.mk A90
        clear A90
        by_cases c10 : ((t143 ++ t144) ++ t145).size + t146.size ≤ 9223372036854775807
        · rw [if_pos c10] at H
          have c10b0 := eq_true c10
          have c10b1 : decide (((t143 ++ t144) ++ t145).size + t146.size ≤ 9223372036854775807) = true := decide_eq_true c10
          try have c10b2 : (9223372036854775807 < ((t143 ++ t144) ++ t145).size + t146.size) = False := eq_false (Nat.not_lt.2 c10)
          (try (have c10n := c10b2; simp only [ByteArray.size_append] at c10n))
          by_cases c11 : (((t143 ++ t144) ++ t145) ++ t146).size + a0_3.size ≤ 9223372036854775807
          · rw [if_pos c11] at H
            have c11b0 := eq_true c11
            have c11b1 : decide ((((t143 ++ t144) ++ t145) ++ t146).size + a0_3.size ≤ 9223372036854775807) = true := decide_eq_true c11
            try have c11b2 : (9223372036854775807 < (((t143 ++ t144) ++ t145) ++ t146).size + a0_3.size) = False := eq_false (Nat.not_lt.2 c11)
            (try (have c11n := c11b2; simp only [ByteArray.size_append] at c11n))
            simp only [Option.some.injEq, Prod.mk.injEq] at H
            obtain ⟨rfl, rfl⟩ := H
            go_enter Try.func11, Try.ntmps11
            try go_wp2_with (first | ((with_reducible refine gate_dst (N := 1) rfl ?_); refine box_event ?hg (N := 1) ?hd (cs := #[.int .i64 a0_0, .int .i64 a0_1, .int .i64 a0_2, .string a0_3]) (t := 23) ?hr ?_; (case hd => rfl); (case hg => rfl); (case hr => first | (go_simp; done) | (go_simp; rfl)); intro gb141 hg w12 hbox hb; have n0_ := Aside0.mk (below_step (by repeat (first | (with_reducible first | exact HB.out | apply below_alloc | apply pw_below_drewN | apply below_drew1) | exact HB.out)) hb); have n1_ := Aside0.mk (hbox); have n2_ := Aside0.mk ((by rw [hg]; exact (below_size (by repeat (first | (with_reducible first | exact HB.out | apply below_alloc | apply pw_below_drewN | apply below_drew1) | exact HB.out))) : w.heap.size ≤ gb141)); have n3_ := Aside0.mk ((by rw [hg]; exact (below_size (by repeat (first | (with_reducible first | exact HB.out | apply below_alloc | apply pw_below_drewN | apply below_drew1) | exact HB.out))) : w.heap.size ≤ gb141)); clear HB; have HB := n0_; have BK141 := n1_; have GW141 := n2_; have GE141 := n3_; clear n0_ n1_ n2_ n3_; clear hb hbox hg; have hcz13_0 : w12.cell? ⟨gb141, 0, none⟩ = some (.int .i64 a0_0) := (blk_cell BK141.out 0).trans rfl; have hcz13_1 : w12.cell? ⟨gb141, 1, none⟩ = some (.int .i64 a0_1) := (blk_cell BK141.out 1).trans rfl; have hcz13_2 : w12.cell? ⟨gb141, 2, none⟩ = some (.int .i64 a0_2) := (blk_cell BK141.out 2).trans rfl; have hcz13_3 : w12.cell? ⟨gb141, 3, none⟩ = some (.string a0_3) := (blk_cell BK141.out 3).trans rfl; have hfz13_0 := blk_frozen BK141.out 0; have hfz13_1 := blk_frozen BK141.out 1; have hfz13_2 := blk_frozen BK141.out 2; have hfz13_3 := blk_frozen BK141.out 3) | ((with_reducible refine gate_callee (f := 20) rfl ?_); refine goesL_ (some 5) rfl rfl Try.func20 (by kernel_rfl) rfl #[.agg #[.int .i64 a0_0, .int .i64 a0_1, .int .i64 a0_2, .string a0_3]] rfl (by (try simp only [List.map_toArray, List.map_cons, List.map_nil]); first | done | rfl | (simp only [List.length_drop, List.length_take]; rfl)) ?_; (with_reducible refine (bywashref1_FrameRight.calls a0_0 a0_1 a0_2 a0_3 true _ A2.out).mono ?_); rintro e w14 ⟨rfl, hb⟩; refine ⟨_, rfl, ?_⟩; have n0_ := Aside0.mk (blk_below (g := gb141) (o := .cells #[.int .i64 a0_0, .int .i64 a0_1, .int .i64 a0_2, .string a0_3] 23 (0, 0)) (by (with_reducible repeat (first | refine blk_drewN ?_ _ | refine blk_drew ?_ | refine blk_alloc ?_ _)); exact BK141.out) hb); have n1_ := Aside0.mk (below_step (by repeat (first | (with_reducible first | exact HB.out | apply below_alloc | apply pw_below_drewN | apply below_drew1 | refine below_set ?_ GE141.out) | exact HB.out)) hb); clear BK141; clear HB; have BK141 := n0_; have HB := n1_; clear n0_ n1_; (try clear hb); (try clear hb2); (try clear hk); (try clear hi)))
            have n0_ := Aside0.mk (blk_drew BK141.out)
            have n1_ := Aside0.mk (below_drew1 HB.out)
            clear BK141
            clear HB
            have BK141 := n0_
            have HB := n1_
            clear n0_ n1_
            refine start_ (n := 21) (S := fun w' => w'.cell? ⟨gb141, 0, none⟩ = some (.int .i64 a0_0) ∧ w'.cell? ⟨gb141, 1, none⟩ = some (.int .i64 a0_1) ∧ w'.cell? ⟨gb141, 2, none⟩ = some (.int .i64 a0_2) ∧ w'.cell? ⟨gb141, 3, none⟩ = some (.string a0_3)) (ds := []) #[false, false, false, false, false, false, false, false, false, false, false, false, false, false, false, false, false, false, false, false, false] (by kernel_rfl) rfl rfl ⟨(blk_cell BK141.out 0).trans rfl, (blk_cell BK141.out 1).trans rfl, (blk_cell BK141.out 2).trans rfl, (blk_cell BK141.out 3).trans rfl⟩ (fun hHeld => ?_); refine with_tabW bywashref1_FramePut.tab3 bywashref1_FramePut.bits3 (fun HT_ HW_ => ?_)
            generalize w14.drew = w15 at BK141 HB hHeld ⊢
            refine pure_ (i := 0) (N := some 7) (v := ?_) (a' := ?_) #[true, false, false, false, false, false, false, false, false, false, false, false, false, false, false, false, false, false, false, false, false] rfl rfl (any_of HT_.out (by kernel_rfl)) (fun _ _ _ h => h) (Or.inl ⟨by rfl, ?_⟩) ?_ ?_
            rotate_left
            · intro w'
              go_simp
              with_reducible rfl
            rotate_left
            · simp only [Act.put, List.setIfInBounds_toArray, List.set_cons_zero, List.set_cons_succ, i64_w, i32_w]
              rfl
            refine pure_ (i := 4) (N := some 11) (v := ?_) (a' := ?_) #[true, false, false, false, true, false, false, false, false, false, false, false, false, false, false, false, false, false, false, false, false] rfl rfl (any_of HT_.out (by kernel_rfl)) (fun _ _ _ h => h) (Or.inl ⟨by rfl, ?_⟩) ?_ ?_
            rotate_left
            · intro w'
              go_simp
              with_reducible rfl
            rotate_left
            · simp only [Act.put, List.setIfInBounds_toArray, List.set_cons_zero, List.set_cons_succ, i64_w, i32_w]
              rfl
            refine pure_ (i := 8) (N := some 15) (v := ?_) (a' := ?_) #[true, false, false, false, true, false, false, false, true, false, false, false, false, false, false, false, false, false, false, false, false] rfl rfl (any_of HT_.out (by kernel_rfl)) (fun _ _ _ h => h) (Or.inl ⟨by rfl, ?_⟩) ?_ ?_
            rotate_left
            · intro w'
              go_simp
              with_reducible rfl
            rotate_left
            · simp only [Act.put, List.setIfInBounds_toArray, List.set_cons_zero, List.set_cons_succ, i64_w, i32_w]
              rfl
            refine pure_ (i := 12) (N := some 19) (v := ?_) (a' := ?_) #[true, false, false, false, true, false, false, false, true, false, false, false, true, false, false, false, false, false, false, false, false] rfl rfl (any_of HT_.out (by kernel_rfl)) (fun _ _ _ h => h) (Or.inl ⟨by rfl, ?_⟩) ?_ ?_
            rotate_left
            · intro w'
              go_simp
              with_reducible rfl
            rotate_left
            · simp only [Act.put, List.setIfInBounds_toArray, List.set_cons_zero, List.set_cons_succ, i64_w, i32_w]
              rfl
            refine pure_ (i := 16) (N := some 23) (v := ?_) (a' := ?_) #[true, false, false, false, true, false, false, false, true, false, false, false, true, false, false, false, true, false, false, false, false] rfl rfl (any_of HT_.out (by kernel_rfl)) (fun _ _ _ h => h) (Or.inl ⟨by rfl, ?_⟩) ?_ ?_
            rotate_left
            · intro w'
              go_simp
              with_reducible rfl
            rotate_left
            · simp only [Act.put, List.setIfInBounds_toArray, List.set_cons_zero, List.set_cons_succ, i64_w, i32_w]
              rfl
            refine take_ (i := 1) (N := some 8) (v := ?_) (a' := ?_) #[true, true, false, false, true, false, false, false, true, false, false, false, true, false, false, false, true, false, false, false, false] rfl rfl (take_ofW HT_.out HW_.out (by kernel_rfl)) (fun _ _ _ h => h) (Or.inl ⟨by rfl, ?_⟩) hHeld ?_ ?_
            rotate_left
            · rintro w' ⟨s0, s1, s2, s3⟩
              go_simp
              with_reducible rfl
            rotate_left
            · simp only [Act.put, List.setIfInBounds_toArray, List.set_cons_zero, List.set_cons_succ, i64_w, i32_w]
              rfl
            refine pure_ (i := 2) (N := some 9) (v := ?_) (a' := ?_) #[true, true, true, false, true, false, false, false, true, false, false, false, true, false, false, false, true, false, false, false, false] rfl rfl (any_of HT_.out (by kernel_rfl)) (fun _ _ _ h => h) (Or.inl ⟨by rfl, ?_⟩) ?_ ?_
            rotate_left
            · intro w'
              go_simp
              with_reducible rfl
            rotate_left
            · simp only [Act.put, List.setIfInBounds_toArray, List.set_cons_zero, List.set_cons_succ, i64_w, i32_w]
              rfl
            refine take_ (i := 5) (N := some 12) (v := ?_) (a' := ?_) #[true, true, true, false, true, true, false, false, true, false, false, false, true, false, false, false, true, false, false, false, false] rfl rfl (take_ofW HT_.out HW_.out (by kernel_rfl)) (fun _ _ _ h => h) (Or.inl ⟨by rfl, ?_⟩) hHeld ?_ ?_
            rotate_left
            · rintro w' ⟨s0, s1, s2, s3⟩
              go_simp
              with_reducible rfl
            rotate_left
            · simp only [Act.put, List.setIfInBounds_toArray, List.set_cons_zero, List.set_cons_succ, i64_w, i32_w]
              rfl
            refine take_ (i := 9) (N := some 16) (v := ?_) (a' := ?_) #[true, true, true, false, true, true, false, false, true, true, false, false, true, false, false, false, true, false, false, false, false] rfl rfl (take_ofW HT_.out HW_.out (by kernel_rfl)) (fun _ _ _ h => h) (Or.inl ⟨by rfl, ?_⟩) hHeld ?_ ?_
            rotate_left
            · rintro w' ⟨s0, s1, s2, s3⟩
              go_simp
              with_reducible rfl
            rotate_left
            · simp only [Act.put, List.setIfInBounds_toArray, List.set_cons_zero, List.set_cons_succ, i64_w, i32_w]
              rfl
            refine take_ (i := 13) (N := some 20) (v := ?_) (a' := ?_) #[true, true, true, false, true, true, false, false, true, true, false, false, true, true, false, false, true, false, false, false, false] rfl rfl (take_ofW HT_.out HW_.out (by kernel_rfl)) (fun _ _ _ h => h) (Or.inl ⟨by rfl, ?_⟩) hHeld ?_ ?_
            rotate_left
            · rintro w' ⟨s0, s1, s2, s3⟩
              go_simp
              with_reducible rfl
            rotate_left
            · simp only [Act.put, List.setIfInBounds_toArray, List.set_cons_zero, List.set_cons_succ, i64_w, i32_w]
              rfl
            refine take_ (i := 17) (N := some 24) (v := ?_) (a' := ?_) #[true, true, true, false, true, true, false, false, true, true, false, false, true, true, false, false, true, true, false, false, false] rfl rfl (take_ofW HT_.out HW_.out (by kernel_rfl)) (fun _ _ _ h => h) (Or.inl ⟨by rfl, ?_⟩) hHeld ?_ ?_
            rotate_left
            · rintro w' ⟨s0, s1, s2, s3⟩
              go_simp
              with_reducible rfl
            rotate_left
            · simp only [Act.put, List.setIfInBounds_toArray, List.set_cons_zero, List.set_cons_succ, i64_w, i32_w]
              rfl
            refine one_ (i := 3) (N := some 10) #[true, true, true, true, true, true, false, false, true, true, false, false, true, true, false, false, true, true, false, false, false] rfl rfl (one_of HT_.out (by kernel_rfl)) (by decide) (fun K hK => ?_)
            refine goes_ Try.func21 (by kernel_rfl) rfl #[.int .i64 (a0_3.size : Int), .int .i64 3] (by rfl) rfl rfl (by (try simp only [List.map_toArray, List.map_cons, List.map_nil]); first | done | rfl | (simp only [List.length_drop, List.length_take]; rfl)) ?_
            with_reducible refine (bywashref1_Big.calls k (a0_3.size : Int) 3 t143 _ A4.out).mono ?_
            rintro e w16 ⟨rfl, hb⟩
            refine ⟨_, rfl, ?_⟩
            have n0_ := Aside0.mk (blk_below (g := gb141) (o := .cells #[.int .i64 a0_0, .int .i64 a0_1, .int .i64 a0_2, .string a0_3] 23 (0, 0)) (by (with_reducible repeat (first | refine blk_drewN ?_ _ | refine blk_drew ?_ | refine blk_alloc ?_ _)); exact BK141.out) hb)
            have n1_ := Aside0.mk (below_step (by repeat (first | (with_reducible first | exact HB.out | apply below_alloc | apply pw_below_drewN | apply below_drew1 | refine below_set ?_ GE141.out) | exact HB.out)) hb)
            clear BK141
            clear HB
            have BK141 := n0_
            have HB := n1_
            clear n0_ n1_
            (try clear hb)
            (try clear hb2)
            (try clear hk)
            (try clear hi)
            refine hK.out _ _ ⟨(blk_cell BK141.out 0).trans rfl, (blk_cell BK141.out 1).trans rfl, (blk_cell BK141.out 2).trans rfl, (blk_cell BK141.out 3).trans rfl⟩ (fun hHeld => ?_)
            clear hK K
            refine norm_ (a' := ?_) ?_ ?_
            rotate_left
            · show Act.put _ (some 10) _ = _
              simp only [Act.put, List.setIfInBounds_toArray, List.set_cons_zero, List.set_cons_succ, i64_w, i32_w]
              rfl
            refine one_ (i := 6) (N := some 13) #[true, true, true, true, true, true, true, false, true, true, false, false, true, true, false, false, true, true, false, false, false] rfl rfl (one_of HT_.out (by kernel_rfl)) (by decide) (fun K hK => ?_)
            refine goes_ Try.func21 (by kernel_rfl) rfl #[.int .i64 a0_0, .int .i64 1] (by rfl) rfl rfl (by (try simp only [List.map_toArray, List.map_cons, List.map_nil]); first | done | rfl | (simp only [List.length_drop, List.length_take]; rfl)) ?_
            with_reducible refine (bywashref1_Big.calls k a0_0 1 t144 _ A5.out).mono ?_
            rintro e w17 ⟨rfl, hb⟩
            refine ⟨_, rfl, ?_⟩
            have n0_ := Aside0.mk (blk_below (g := gb141) (o := .cells #[.int .i64 a0_0, .int .i64 a0_1, .int .i64 a0_2, .string a0_3] 23 (0, 0)) (by (with_reducible repeat (first | refine blk_drewN ?_ _ | refine blk_drew ?_ | refine blk_alloc ?_ _)); exact BK141.out) hb)
            have n1_ := Aside0.mk (below_step (by repeat (first | (with_reducible first | exact HB.out | apply below_alloc | apply pw_below_drewN | apply below_drew1 | refine below_set ?_ GE141.out) | exact HB.out)) hb)
            clear BK141
            clear HB
            have BK141 := n0_
            have HB := n1_
            clear n0_ n1_
            (try clear hb)
            (try clear hb2)
            (try clear hk)
            (try clear hi)
            refine hK.out _ _ ⟨(blk_cell BK141.out 0).trans rfl, (blk_cell BK141.out 1).trans rfl, (blk_cell BK141.out 2).trans rfl, (blk_cell BK141.out 3).trans rfl⟩ (fun hHeld => ?_)
            clear hK K
            refine norm_ (a' := ?_) ?_ ?_
            rotate_left
            · show Act.put _ (some 13) _ = _
              simp only [Act.put, List.setIfInBounds_toArray, List.set_cons_zero, List.set_cons_succ, i64_w, i32_w]
              rfl
            refine pure_ (i := 7) (N := some 14) (v := ?_) (a' := ?_) #[true, true, true, true, true, true, true, true, true, true, false, false, true, true, false, false, true, true, false, false, false] rfl rfl (any_of HT_.out (by kernel_rfl)) (fun _ _ _ h => h) (Or.inl ⟨by rfl, ?_⟩) ?_ ?_
            rotate_left
            · intro w'
              go_simp
              with_reducible rfl
            rotate_left
            · simp only [Act.put, List.setIfInBounds_toArray, List.set_cons_zero, List.set_cons_succ, i64_w, i32_w]
              rfl
            refine one_ (i := 10) (N := some 17) #[true, true, true, true, true, true, true, true, true, true, true, false, true, true, false, false, true, true, false, false, false] rfl rfl (one_of HT_.out (by kernel_rfl)) (by decide) (fun K hK => ?_)
            refine goes_ Try.func21 (by kernel_rfl) rfl #[.int .i64 a0_1, .int .i64 1] (by rfl) rfl rfl (by (try simp only [List.map_toArray, List.map_cons, List.map_nil]); first | done | rfl | (simp only [List.length_drop, List.length_take]; rfl)) ?_
            with_reducible refine (bywashref1_Big.calls k a0_1 1 t145 _ A7.out).mono ?_
            rintro e w18 ⟨rfl, hb⟩
            refine ⟨_, rfl, ?_⟩
            have n0_ := Aside0.mk (blk_below (g := gb141) (o := .cells #[.int .i64 a0_0, .int .i64 a0_1, .int .i64 a0_2, .string a0_3] 23 (0, 0)) (by (with_reducible repeat (first | refine blk_drewN ?_ _ | refine blk_drew ?_ | refine blk_alloc ?_ _)); exact BK141.out) hb)
            have n1_ := Aside0.mk (below_step (by repeat (first | (with_reducible first | exact HB.out | apply below_alloc | apply pw_below_drewN | apply below_drew1 | refine below_set ?_ GE141.out) | exact HB.out)) hb)
            clear BK141
            clear HB
            have BK141 := n0_
            have HB := n1_
            clear n0_ n1_
            (try clear hb)
            (try clear hb2)
            (try clear hk)
            (try clear hi)
            refine hK.out _ _ ⟨(blk_cell BK141.out 0).trans rfl, (blk_cell BK141.out 1).trans rfl, (blk_cell BK141.out 2).trans rfl, (blk_cell BK141.out 3).trans rfl⟩ (fun hHeld => ?_)
            clear hK K
            refine norm_ (a' := ?_) ?_ ?_
            rotate_left
            · show Act.put _ (some 17) _ = _
              simp only [Act.put, List.setIfInBounds_toArray, List.set_cons_zero, List.set_cons_succ, i64_w, i32_w]
              rfl
            refine pure_ (i := 11) (N := some 18) (v := ?_) (a' := ?_) #[true, true, true, true, true, true, true, true, true, true, true, true, true, true, false, false, true, true, false, false, false] rfl rfl (any_of HT_.out (by kernel_rfl)) (fun _ _ _ h => h) (Or.inl ⟨by rfl, ?_⟩) ?_ ?_
            rotate_left
            · intro w'
              go_simp
              with_reducible rfl
            rotate_left
            · simp only [Act.put, List.setIfInBounds_toArray, List.set_cons_zero, List.set_cons_succ, i64_w, i32_w]
              rfl
            refine one_ (i := 14) (N := some 21) #[true, true, true, true, true, true, true, true, true, true, true, true, true, true, true, false, true, true, false, false, false] rfl rfl (one_of HT_.out (by kernel_rfl)) (by decide) (fun K hK => ?_)
            refine goes_ Try.func21 (by kernel_rfl) rfl #[.int .i64 a0_2, .int .i64 4] (by rfl) rfl rfl (by (try simp only [List.map_toArray, List.map_cons, List.map_nil]); first | done | rfl | (simp only [List.length_drop, List.length_take]; rfl)) ?_
            with_reducible refine (bywashref1_Big.calls k a0_2 4 t146 _ A9.out).mono ?_
            rintro e w19 ⟨rfl, hb⟩
            refine ⟨_, rfl, ?_⟩
            have n0_ := Aside0.mk (blk_below (g := gb141) (o := .cells #[.int .i64 a0_0, .int .i64 a0_1, .int .i64 a0_2, .string a0_3] 23 (0, 0)) (by (with_reducible repeat (first | refine blk_drewN ?_ _ | refine blk_drew ?_ | refine blk_alloc ?_ _)); exact BK141.out) hb)
            have n1_ := Aside0.mk (below_step (by repeat (first | (with_reducible first | exact HB.out | apply below_alloc | apply pw_below_drewN | apply below_drew1 | refine below_set ?_ GE141.out) | exact HB.out)) hb)
            clear BK141
            clear HB
            have BK141 := n0_
            have HB := n1_
            clear n0_ n1_
            (try clear hb)
            (try clear hb2)
            (try clear hk)
            (try clear hi)
            refine hK.out _ _ ⟨(blk_cell BK141.out 0).trans rfl, (blk_cell BK141.out 1).trans rfl, (blk_cell BK141.out 2).trans rfl, (blk_cell BK141.out 3).trans rfl⟩ (fun hHeld => ?_)
            clear hK K
            refine norm_ (a' := ?_) ?_ ?_
            rotate_left
            · show Act.put _ (some 21) _ = _
              simp only [Act.put, List.setIfInBounds_toArray, List.set_cons_zero, List.set_cons_succ, i64_w, i32_w]
              rfl
            refine pure_ (i := 15) (N := some 22) (v := ?_) (a' := ?_) #[true, true, true, true, true, true, true, true, true, true, true, true, true, true, true, true, true, true, false, false, false] rfl rfl (any_of HT_.out (by kernel_rfl)) (fun _ _ _ h => h) (Or.inl ⟨by rfl, ?_⟩) ?_ ?_
            rotate_left
            · intro w'
              go_simp
              with_reducible rfl
            rotate_left
            · simp only [Act.put, List.setIfInBounds_toArray, List.set_cons_zero, List.set_cons_succ, i64_w, i32_w]
              rfl
            refine pure_ (i := 18) (N := some 25) (v := ?_) (a' := ?_) #[true, true, true, true, true, true, true, true, true, true, true, true, true, true, true, true, true, true, true, false, false] rfl rfl (any_of HT_.out (by kernel_rfl)) (fun _ _ _ h => h) (Or.inl ⟨by rfl, ?_⟩) ?_ ?_
            rotate_left
            · intro w'
              go_simp
              with_reducible rfl
            rotate_left
            · simp only [Act.put, List.setIfInBounds_toArray, List.set_cons_zero, List.set_cons_succ, i64_w, i32_w]
              rfl
            refine pure_ (i := 19) (N := some 2) (v := ?_) (a' := ?_) #[true, true, true, true, true, true, true, true, true, true, true, true, true, true, true, true, true, true, true, true, false] rfl rfl (any_of HT_.out (by kernel_rfl)) (fun _ _ _ h => h) (Or.inl ⟨by rfl, ?_⟩) ?_ ?_
            rotate_left
            · intro w'
              go_simp
              with_reducible rfl
            rotate_left
            · simp only [Act.put, List.setIfInBounds_toArray, List.set_cons_zero, List.set_cons_succ, i64_w, i32_w]
              rfl
            refine pure_ (i := 20) (N := some 3) (v := ?_) (a' := ?_) #[true, true, true, true, true, true, true, true, true, true, true, true, true, true, true, true, true, true, true, true, true] rfl rfl (any_of HT_.out (by kernel_rfl)) (fun _ _ _ h => h) (Or.inl ⟨by rfl, ?_⟩) ?_ ?_
            rotate_left
            · intro w'
              go_simp
              with_reducible rfl
            rotate_left
            · simp only [Act.put, List.setIfInBounds_toArray, List.set_cons_zero, List.set_cons_succ, i64_w, i32_w]
              rfl
            refine done_ (done_of HT_.out (by kernel_rfl)) ?_
            try go_wp2
            go_ret2
            exact ⟨by first | rfl | (simp [errW_none, errW_some] <;> rfl) | (simp [*, errW_none, errW_some] <;> rfl), by repeat (first | (with_reducible first | exact HB.out | apply below_alloc | apply pw_below_drewN | apply below_drew1 | refine below_set ?_ GE141.out) | exact HB.out)⟩
          · rw [if_neg c11] at H
            exact absurd H (by simp)
        · rw [if_neg c10] at H
          exact absurd H (by simp)
      · rw [if_neg c8] at H
        exact absurd H (by simp)
    · rw [if_neg c6] at H
      exact absurd H (by simp)
  · replace c3 := Bool.eq_false_iff.mpr c3
    subst c3
    have H1 : (some ((⟨#[]⟩ : ByteArray), false)) = some (r1, r2) := by rw [if_neg (show ¬ (false = true) by decide)] at H; exact H
    clear H
    have H := H1
    clear H1
    simp only [Option.some.injEq, Prod.mk.injEq] at H
    obtain ⟨rfl, rfl⟩ := H
    go_enter Try.func11, Try.ntmps11
    go_wp2_with (first | ((with_reducible refine gate_dst (N := 1) rfl ?_); refine box_event ?hg (N := 1) ?hd (cs := #[.int .i64 a0_0, .int .i64 a0_1, .int .i64 a0_2, .string a0_3]) (t := 23) ?hr ?_; (case hd => rfl); (case hg => rfl); (case hr => first | (go_simp; done) | (go_simp; rfl)); intro gb141 hg w20 hbox hb; have n0_ := Aside0.mk (below_step (by repeat (first | (with_reducible first | exact HB.out | apply below_alloc | apply pw_below_drewN | apply below_drew1) | exact HB.out)) hb); have n1_ := Aside0.mk (hbox); have n2_ := Aside0.mk ((by rw [hg]; exact (below_size (by repeat (first | (with_reducible first | exact HB.out | apply below_alloc | apply pw_below_drewN | apply below_drew1) | exact HB.out))) : w.heap.size ≤ gb141)); have n3_ := Aside0.mk ((by rw [hg]; exact (below_size (by repeat (first | (with_reducible first | exact HB.out | apply below_alloc | apply pw_below_drewN | apply below_drew1) | exact HB.out))) : w.heap.size ≤ gb141)); clear HB; have HB := n0_; have BK141 := n1_; have GW141 := n2_; have GE141 := n3_; clear n0_ n1_ n2_ n3_; clear hb hbox hg; have hcz21_0 : w20.cell? ⟨gb141, 0, none⟩ = some (.int .i64 a0_0) := (blk_cell BK141.out 0).trans rfl; have hcz21_1 : w20.cell? ⟨gb141, 1, none⟩ = some (.int .i64 a0_1) := (blk_cell BK141.out 1).trans rfl; have hcz21_2 : w20.cell? ⟨gb141, 2, none⟩ = some (.int .i64 a0_2) := (blk_cell BK141.out 2).trans rfl; have hcz21_3 : w20.cell? ⟨gb141, 3, none⟩ = some (.string a0_3) := (blk_cell BK141.out 3).trans rfl; have hfz21_0 := blk_frozen BK141.out 0; have hfz21_1 := blk_frozen BK141.out 1; have hfz21_2 := blk_frozen BK141.out 2; have hfz21_3 := blk_frozen BK141.out 3) | ((with_reducible refine gate_callee (f := 20) rfl ?_); refine goesL_ (some 5) rfl rfl Try.func20 (by kernel_rfl) rfl #[.agg #[.int .i64 a0_0, .int .i64 a0_1, .int .i64 a0_2, .string a0_3]] rfl (by (try simp only [List.map_toArray, List.map_cons, List.map_nil]); first | done | rfl | (simp only [List.length_drop, List.length_take]; rfl)) ?_; (with_reducible refine (bywashref1_FrameRight.calls a0_0 a0_1 a0_2 a0_3 false _ A2.out).mono ?_); rintro e w22 ⟨rfl, hb⟩; refine ⟨_, rfl, ?_⟩; have n0_ := Aside0.mk (blk_below (g := gb141) (o := .cells #[.int .i64 a0_0, .int .i64 a0_1, .int .i64 a0_2, .string a0_3] 23 (0, 0)) (by (with_reducible repeat (first | refine blk_drewN ?_ _ | refine blk_drew ?_ | refine blk_alloc ?_ _)); exact BK141.out) hb); have n1_ := Aside0.mk (below_step (by repeat (first | (with_reducible first | exact HB.out | apply below_alloc | apply pw_below_drewN | apply below_drew1 | refine below_set ?_ GE141.out) | exact HB.out)) hb); clear BK141; clear HB; have BK141 := n0_; have HB := n1_; clear n0_ n1_; (try clear hb); (try clear hb2); (try clear hk); (try clear hi)))
    go_ret2
    exact ⟨by first | rfl | (simp [errW_none, errW_some] <;> rfl) | (simp [*, errW_none, errW_some] <;> rfl), by repeat (first | (with_reducible first | exact HB.out | apply below_alloc | apply pw_below_drewN | apply below_drew1 | refine below_set ?_ GE141.out) | exact HB.out)⟩

end Go.Proofs.Ytehccigpbchbcaa.PFrameTells
