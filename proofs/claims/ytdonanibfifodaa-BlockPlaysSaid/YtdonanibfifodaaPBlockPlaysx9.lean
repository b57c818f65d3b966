-- Written by a program of this session (the kit's printer, turned): the functions that the law reaches.
import Derived.Test.YtdonanibfifodaaPBlockPlaysx0
import Derived.Test.YtdonanibfifodaaPBlockPlaysx8
namespace Go.Proofs.Ytdonanibfifodaa.PBlockPlays
open Go.RowKit Go.Proofs.YtdonanibfifodaaW.PrintWords Go.Proofs.YtdonanibfifodaaW.PrintLast Go.Proofs.YtdonanibfifodaaW.PrintMore
attribute [local go_sem] max2_int min2_int max_two min_two max_three min_three max_four min_four   -- for this text's walks alone
set_option linter.unusedVariables false
set_option linter.unusedSimpArgs false

/-! ### bywashref1_Blocks_Take: function 19 -/
def bywashref1_Blocks_Take.f (k : Nat) (s0_0 : Int) (s0_1 : Int) (s0_2 : ByteArray) (s0_3 : Bool) (a1_0 : Int) (a1_1 : Int) (a1_2 : Int) (a1_3 : ByteArray) : Option (Int × ByteArray × Bool × Bool × Int × Int × Int × ByteArray × Bool) := (bywashref1_Blocks_take.f k s0_0 s0_1 s0_2 s0_3 a1_0 a1_1 a1_2 a1_3).bind fun bt198 => (if bt198.2.1 = 0 then (if bt198.1 = true then (some (bt198.2.2.2.1, bt198.2.2.2.2.1, bt198.2.2.2.2.2, true, 0, bt198.2.2.1, 0, (⟨#[]⟩ : ByteArray), bt198.2.2.2.2.2)) else (some (0, (⟨#[]⟩ : ByteArray), false, false, 0, bt198.2.2.1, bt198.2.2.2.1, bt198.2.2.2.2.1, bt198.2.2.2.2.2))) else (some (0, (⟨#[]⟩ : ByteArray), false, false, bt198.2.1, bt198.2.2.1, 0, (⟨#[]⟩ : ByteArray), bt198.2.2.2.2.2)))
theorem bywashref1_Blocks_Take.mono : ∀ a0 a1 a2 a3 a4 a5 a6 a7 k, LeO (bywashref1_Blocks_Take.f k a0 a1 a2 a3 a4 a5 a6 a7) (bywashref1_Blocks_Take.f (k + 1) a0 a1 a2 a3 a4 a5 a6 a7) := by
 intro a0 a1 a2 a3 a4 a5 a6 a7 k
 unfold bywashref1_Blocks_Take.f
 repeat' first
   | (with_reducible exact bywashref1_Blocks_take.mono _ _ _ _ _ _ _ _ _)
   | (with_reducible exact LeO.refl _)
   | (with_reducible exact LeO.none _)
   | (with_reducible refine LeO.ite ?_ ?_)
   | (with_reducible refine LeO.bind ?_ (fun _ => ?_))
   | exact bywashref1_Blocks_take.mono _ _ _ _ _ _ _ _ _
   | exact LeO.none _
   | refine LeO.ite ?_ ?_
   | refine LeO.bind ?_ (fun _ => ?_)
def bywashref1_Blocks_Take.T7 : Bool × List (List Nat × List Nat) := (true, [([], []), ([0], [0]), ([1], [1]), ([2], [2]), ([], []), ([4], [4]), ([5], [5]), ([6], [6]), ([], []), ([8], [8]), ([9], [9]), ([10], [10]), ([3, 7, 11], [3, 7, 11]), ([], []), ([13, 12, 0, 1, 2, 3, 4, 5, 6, 7, 8, 9, 10, 11, 12, 13], [12, 13])])
def bywashref1_Blocks_Take.B7 : List Nat := [0, 1, 3, 7, 0, 16, 48, 112, 0, 256, 768, 1792, 4095, 0, 16383]
theorem bywashref1_Blocks_Take.tab7 : rtab .any (opsOf Try.f19 7) = bywashref1_Blocks_Take.T7 := by kernel_rfl
theorem bywashref1_Blocks_Take.bits7 : waitsOk bywashref1_Blocks_Take.T7.2 bywashref1_Blocks_Take.B7 = true := by kernel_rfl
set_option maxHeartbeats 8000000 in
set_option maxRecDepth 100000 in
theorem bywashref1_Blocks_Take.calls (k : Nat) (g : Nat) (s0_0 : Int) (s0_1 : Int) (s0_2 : ByteArray) (s0_3 : Bool) (a1_0 : Int) (a1_1 : Int) (a1_2 : Int) (a1_3 : ByteArray) (r1 : Int) (r2 : ByteArray) (r3 : Bool) (r4 : Bool) (r5 : Int) (r6 : Int) (r7 : Int) (r8 : ByteArray) (r9 : Bool) (w0 w : World) (hI : IsS49 w0 w g s0_0 s0_1 s0_2 s0_3) (hB : Below w0.heap.size w0 w) (h : bywashref1_Blocks_Take.f k s0_0 s0_1 s0_2 s0_3 a1_0 a1_1 a1_2 a1_3 = some (r1, r2, r3, r4, r5, r6, r7, r8, r9)) :
  Calls Try.prog 19 #[.pointer (some ⟨g, 0, none⟩), .agg #[.int .i64 a1_0, .int .i64 a1_1, .int .i64 a1_2, .string a1_3]] w fun e w' => e = .returned (.tuple #[.agg #[.int .i64 r1, .string r2, .bool r3], .bool r4, .int .i64 r5]) ∧ IsS49 w0 w' g r6 r7 r8 r9 ∧ Below w0.heap.size w0 w' ∧ KeepBut w w' g none := by
 have hu39 := Try.underlying39
 have hu50 := Try.underlying50
 have HI0 := Aside0.mk hI
 have HK := Aside0.mk (KeepBut.refl w g none)
 have HL := Aside0.mk hB.size
 clear hI
 have HW0 := Aside0.mk hB.size
 have HB := Aside0.mk hB
 clear hB
 have H : ((bywashref1_Blocks_take.f k s0_0 s0_1 s0_2 s0_3 a1_0 a1_1 a1_2 a1_3).bind fun bt198 => (if bt198.2.1 = 0 then (if bt198.1 = true then (some (bt198.2.2.2.1, bt198.2.2.2.2.1, bt198.2.2.2.2.2, true, 0, bt198.2.2.1, 0, (⟨#[]⟩ : ByteArray), bt198.2.2.2.2.2)) else (some (0, (⟨#[]⟩ : ByteArray), false, false, 0, bt198.2.2.1, bt198.2.2.2.1, bt198.2.2.2.2.1, bt198.2.2.2.2.2))) else (some (0, (⟨#[]⟩ : ByteArray), false, false, bt198.2.1, bt198.2.2.1, 0, (⟨#[]⟩ : ByteArray), bt198.2.2.2.2.2)))) = some (r1, r2, r3, r4, r5, r6, r7, r8, r9) := h
 clear h
 replace H := Option.bind_eq_some_iff.mp H
 obtain ⟨⟨t198, t199, t200, t201, t202, t203⟩, A30, H⟩ := H
 replace H : (if t199 = 0 then (if t198 = true then (some (t201, t202, t203, true, 0, t200, 0, (⟨#[]⟩ : ByteArray), t203)) else (some (0, (⟨#[]⟩ : ByteArray), false, false, 0, t200, t201, t202, t203))) else (some (0, (⟨#[]⟩ : ByteArray), false, false, t199, t200, 0, (⟨#[]⟩ : ByteArray), t203))) = some (r1, r2, r3, r4, r5, r6, r7, r8, r9) := H
 have A3 := Aside0.mk A30
 clear A30
 by_cases c4 : t199 = 0
 ·rw [if_pos c4] at H
  have c4b0 : (t199 == 0) = true := beq_iff_eq.mpr c4
  have c4b1 : (t199 != 0) = false := bne_eq_false_iff_eq.mpr c4
  clear c4
  by_cases c5 : t198 = true
  ·subst c5
   have H1 : (some (t201, t202, t203, true, 0, t200, 0, (⟨#[]⟩ : ByteArray), t203)) = some (r1, r2, r3, r4, r5, r6, r7, r8, r9) := by rw [if_pos rfl] at H; exact H
   clear H
   have H := H1
   clear H1
   simp only [Option.some.injEq, Prod.mk.injEq] at H
   obtain ⟨rfl, rfl, rfl, rfl, rfl, rfl, rfl, rfl, rfl⟩ := H
   go_enter Try.func19, Try.ntmps19
   try go_wp2_with (first | ((with_reducible refine gate_dst (N := 3) rfl ?_); refine box_event ?hg (N := 3) ?hd (cs := #[.int .i64 a1_0, .int .i64 a1_1, .int .i64 a1_2, .string a1_3]) (t := 39) ?hr ?_; (case hd => rfl); (case hg => rfl); (case hr => first | (go_simp; done) | (go_simp; rfl)); intro gb196 hg w6 hbox hb; have n0_ := Aside0.mk (IsS49.below (by repeat (first | (with_reducible first | exact HI0.out | apply IsS49.alloc | apply IsS49.drewN | apply IsS49.drew | apply IsS49.set_0 | apply IsS49.set_1 | apply IsS49.set_2 | apply IsS49.set_3) | exact HI0.out)) hb); have n1_ := Aside0.mk (KeepBut.trans (by repeat (first | (with_reducible first | exact HK.out | apply KeepBut.set_ | apply keep_drewN | apply keep_drew | apply keep_alloc) | exact HK.out)) (KeepBut.of_below hb g none) (.inl rfl)); have n2_ := Aside0.mk (below_step (by repeat (first | (with_reducible first | exact HB.out | apply below_alloc | apply pw_below_drewN | apply below_drew1 | refine below_set ?_ (IsS49.ge HI0.out)) | exact HB.out)) hb); have n3_ := Aside0.mk (hbox); have n4_ := Aside0.mk ((by rw [hg]; exact (keep_size (w := w) (g := g) (row := none) (by repeat (first | (with_reducible first | exact HK.out | apply KeepBut.set_ | apply keep_drewN | apply keep_drew | apply keep_alloc) | exact HK.out))) : w.heap.size ≤ gb196)); have n5_ := Aside0.mk ((Nat.le_trans HW0.out (by rw [hg]; exact (keep_size (w := w) (g := g) (row := none) (by repeat (first | (with_reducible first | exact HK.out | apply KeepBut.set_ | apply keep_drewN | apply keep_drew | apply keep_alloc) | exact HK.out))) : w.heap.size ≤ gb196) : w0.heap.size ≤ gb196)); have n6_ := Aside0.mk ((by rw [hg]; exact Nat.ne_of_lt (IsS49.lt (show IsS49 w0 _ g s0_0 s0_1 s0_2 s0_3 from by repeat (first | (with_reducible first | exact HI0.out | apply IsS49.alloc | apply IsS49.drewN | apply IsS49.drew | apply IsS49.set_0 | apply IsS49.set_1 | apply IsS49.set_2 | apply IsS49.set_3) | exact HI0.out))) : g ≠ gb196)); have n7_ := Aside0.mk ((by rw [hg]; exact Nat.ne_of_gt (IsS49.lt (show IsS49 w0 _ g s0_0 s0_1 s0_2 s0_3 from by repeat (first | (with_reducible first | exact HI0.out | apply IsS49.alloc | apply IsS49.drewN | apply IsS49.drew | apply IsS49.set_0 | apply IsS49.set_1 | apply IsS49.set_2 | apply IsS49.set_3) | exact HI0.out))) : gb196 ≠ g)); clear HI0; clear HK; clear HB; have HI0 := n0_; have HK := n1_; have HB := n2_; have BK196 := n3_; have GW196 := n4_; have GE196 := n5_; have NB0_196 := n6_; have NB196_0 := n7_; clear n0_ n1_ n2_ n3_ n4_ n5_ n6_ n7_; clear hb hbox hg) | ((with_reducible refine gate_dst (N := 4) rfl ?_); refine box_event ?hg (N := 4) ?hd (cs := #[.int .i64 0, .string (⟨#[]⟩ : ByteArray), .bool false]) (t := 50) ?hr ?_; (case hd => rfl); (case hg => rfl); (case hr => first | (go_simp; done) | (go_simp; rfl)); intro gb197 hg w7 hbox hb; have n0_ := Aside0.mk (IsS49.below (by repeat (first | (with_reducible first | exact HI0.out | apply IsS49.alloc | apply IsS49.drewN | apply IsS49.drew | apply IsS49.set_0 | apply IsS49.set_1 | apply IsS49.set_2 | apply IsS49.set_3 | refine IsS49.far ?_ NB0_196.out _ | apply IsS49.far (hne := NB0_196.out)) | exact HI0.out)) hb); have n1_ := Aside0.mk (blk_below (g := gb196) (o := .cells #[.int .i64 a1_0, .int .i64 a1_1, .int .i64 a1_2, .string a1_3] 39 (0, 0)) (by (with_reducible repeat (first | refine blk_drewN ?_ _ | refine blk_drew ?_ | refine blk_alloc ?_ _)); exact BK196.out) hb); have n2_ := Aside0.mk (KeepBut.trans (by repeat (first | (with_reducible first | exact HK.out | apply KeepBut.set_ | apply keep_drewN | apply keep_drew | apply keep_alloc | refine keep_far ?_ GW196.out _) | exact HK.out)) (KeepBut.of_below hb g none) (.inl rfl)); have n3_ := Aside0.mk (below_step (by repeat (first | (with_reducible first | exact HB.out | apply below_alloc | apply pw_below_drewN | apply below_drew1 | refine below_set ?_ (IsS49.ge HI0.out) | refine below_set ?_ GE196.out) | exact HB.out)) hb); have n4_ := Aside0.mk (hbox); have n5_ := Aside0.mk ((by rw [hg]; exact (keep_size (w := w) (g := g) (row := none) (by repeat (first | (with_reducible first | exact HK.out | apply KeepBut.set_ | apply keep_drewN | apply keep_drew | apply keep_alloc | refine keep_far ?_ GW196.out _) | exact HK.out))) : w.heap.size ≤ gb197)); have n6_ := Aside0.mk ((Nat.le_trans HW0.out (by rw [hg]; exact (keep_size (w := w) (g := g) (row := none) (by repeat (first | (with_reducible first | exact HK.out | apply KeepBut.set_ | apply keep_drewN | apply keep_drew | apply keep_alloc | refine keep_far ?_ GW196.out _) | exact HK.out))) : w.heap.size ≤ gb197) : w0.heap.size ≤ gb197)); have n7_ := Aside0.mk ((by rw [hg]; exact Nat.ne_of_lt (blk_lt (g := gb196) (o := .cells #[.int .i64 a1_0, .int .i64 a1_1, .int .i64 a1_2, .string a1_3] 39 (0, 0)) (by (with_reducible repeat (first | refine blk_drewN ?_ _ | refine blk_drew ?_ | refine blk_alloc ?_ _)); exact BK196.out)) : gb196 ≠ gb197)); have n8_ := Aside0.mk ((by rw [hg]; exact Nat.ne_of_gt (blk_lt (g := gb196) (o := .cells #[.int .i64 a1_0, .int .i64 a1_1, .int .i64 a1_2, .string a1_3] 39 (0, 0)) (by (with_reducible repeat (first | refine blk_drewN ?_ _ | refine blk_drew ?_ | refine blk_alloc ?_ _)); exact BK196.out)) : gb197 ≠ gb196)); have n9_ := Aside0.mk ((by rw [hg]; exact Nat.ne_of_lt (IsS49.lt (show IsS49 w0 _ g s0_0 s0_1 s0_2 s0_3 from by repeat (first | (with_reducible first | exact HI0.out | apply IsS49.alloc | apply IsS49.drewN | apply IsS49.drew | apply IsS49.set_0 | apply IsS49.set_1 | apply IsS49.set_2 | apply IsS49.set_3 | refine IsS49.far ?_ NB0_196.out _ | apply IsS49.far (hne := NB0_196.out)) | exact HI0.out))) : g ≠ gb197)); have n10_ := Aside0.mk ((by rw [hg]; exact Nat.ne_of_gt (IsS49.lt (show IsS49 w0 _ g s0_0 s0_1 s0_2 s0_3 from by repeat (first | (with_reducible first | exact HI0.out | apply IsS49.alloc | apply IsS49.drewN | apply IsS49.drew | apply IsS49.set_0 | apply IsS49.set_1 | apply IsS49.set_2 | apply IsS49.set_3 | refine IsS49.far ?_ NB0_196.out _ | apply IsS49.far (hne := NB0_196.out)) | exact HI0.out))) : gb197 ≠ g)); clear HI0; clear BK196; clear HK; clear HB; have HI0 := n0_; have BK196 := n1_; have HK := n2_; have HB := n3_; have BK197 := n4_; have GW197 := n5_; have GE197 := n6_; have NB196_197 := n7_; have NB197_196 := n8_; have NB0_197 := n9_; have NB197_0 := n10_; clear n0_ n1_ n2_ n3_ n4_ n5_ n6_ n7_ n8_ n9_ n10_; clear hb hbox hg; have hnb8 := NB196_197.out; have hnc8 := NB197_196.out; have hnb9 := NB196_0.out; have hnc9 := NB0_196.out; have hcz10_0 : w7.cell? ⟨gb196, 0, none⟩ = some (.int .i64 a1_0) := (blk_cell BK196.out 0).trans rfl; have hcz10_1 : w7.cell? ⟨gb196, 1, none⟩ = some (.int .i64 a1_1) := (blk_cell BK196.out 1).trans rfl; have hcz10_2 : w7.cell? ⟨gb196, 2, none⟩ = some (.int .i64 a1_2) := (blk_cell BK196.out 2).trans rfl; have hcz10_3 : w7.cell? ⟨gb196, 3, none⟩ = some (.string a1_3) := (blk_cell BK196.out 3).trans rfl; have hfz10_0 := blk_frozen BK196.out 0; have hfz10_1 := blk_frozen BK196.out 1; have hfz10_2 := blk_frozen BK196.out 2; have hfz10_3 := blk_frozen BK196.out 3) | ((with_reducible refine gate_callee (f := 43) rfl ?_); refine goesL_ (some 13) rfl rfl Try.func43 (by kernel_rfl) rfl #[.pointer (some ⟨g, 0, none⟩), .agg #[.int .i64 a1_0, .int .i64 a1_1, .int .i64 a1_2, .string a1_3]] rfl (by (try simp only [List.map_toArray, List.map_cons, List.map_nil]); first | done | rfl | (simp only [List.length_drop, List.length_take]; rfl)) ?_; (with_reducible refine (bywashref1_Blocks_take.calls k g s0_0 s0_1 s0_2 s0_3 a1_0 a1_1 a1_2 a1_3 true t199 t200 t201 t202 t203 w0 _ ?side1 ?side2 A3.out).mono ?_); (case side1 => repeat (first | (with_reducible first | exact HI0.out | apply IsS49.alloc | apply IsS49.drewN | apply IsS49.drew | apply IsS49.set_0 | apply IsS49.set_1 | apply IsS49.set_2 | apply IsS49.set_3 | refine IsS49.far ?_ NB0_196.out _ | apply IsS49.far (hne := NB0_196.out) | refine IsS49.far ?_ NB0_197.out _ | apply IsS49.far (hne := NB0_197.out)) | exact HI0.out)); (case side2 => repeat (first | (with_reducible first | exact HB.out | apply below_alloc | apply pw_below_drewN | apply below_drew1 | refine below_set ?_ (IsS49.ge HI0.out) | refine below_set ?_ GE196.out | refine below_set ?_ GE197.out) | exact HB.out)); rintro e w11 ⟨rfl, hi, hb, hk⟩; refine ⟨_, rfl, ?_⟩; have n0_ := Aside0.mk (KeepBut.blk hk (g' := gb196) (o := .cells #[.int .i64 a1_0, .int .i64 a1_1, .int .i64 a1_2, .string a1_3] 39 (0, 0)) (by (with_reducible repeat (first | refine blk_drewN ?_ _ | refine blk_drew ?_ | refine blk_alloc ?_ _)); exact BK196.out) NB196_0.out (by simp)); have n1_ := Aside0.mk (KeepBut.blk hk (g' := gb197) (o := .cells #[.int .i64 0, .string (⟨#[]⟩ : ByteArray), .bool false] 50 (0, 0)) (by (with_reducible repeat (first | refine blk_drewN ?_ _ | refine blk_drew ?_ | refine blk_alloc ?_ _)); exact BK197.out) NB197_0.out (by simp)); have n2_ := Aside0.mk (KeepBut.trans (by repeat (first | (with_reducible first | exact HK.out | apply KeepBut.set_ | apply keep_drewN | apply keep_drew | apply keep_alloc | refine keep_far ?_ GW196.out _ | refine keep_far ?_ GW197.out _) | exact HK.out)) hk (.inl rfl)); have n3_ := Aside0.mk (hb); have n4_ := Aside0.mk (hi); clear BK196; clear BK197; clear HK; clear HB; clear HI0; have BK196 := n0_; have BK197 := n1_; have HK := n2_; have HB := n3_; have HI0 := n4_; clear n0_ n1_ n2_ n3_ n4_; (try clear hb); (try clear hb2); (try clear hk); (try clear hi)))
   have n0_ := Aside0.mk (blk_drew BK196.out)
   have n1_ := Aside0.mk (blk_drew BK197.out)
   have n2_ := Aside0.mk (IsS49.drew HI0.out)
   have n3_ := Aside0.mk (keep_drew HK.out)
   have n4_ := Aside0.mk (below_drew1 HB.out)
   clear BK196
   clear BK197
   clear HI0
   clear HK
   clear HB
   have BK196 := n0_
   have BK197 := n1_
   have HI0 := n2_
   have HK := n3_
   have HB := n4_
   clear n0_ n1_ n2_ n3_ n4_
   refine start_ (n := 15) (S := fun w' => w'.cell? ⟨g, 0, none⟩ = some (.int .i64 t200) ∧ w'.cell? ⟨g, 1, none⟩ = some (.int .i64 t201) ∧ w'.cell? ⟨g, 2, none⟩ = some (.string t202) ∧ w'.cell? ⟨g, 3, none⟩ = some (.bool t203)) (ds := []) #[false, false, false, false, false, false, false, false, false, false, false, false, false, false, false] (by kernel_rfl) rfl rfl ⟨cellS49_0 HI0.out.1, cellS49_1 HI0.out.1, cellS49_2 HI0.out.1, cellS49_3 HI0.out.1⟩ (fun hHeld => ?_); refine with_tabW bywashref1_Blocks_Take.tab7 bywashref1_Blocks_Take.bits7 (fun HT_ HW_ => ?_)
   generalize w11.drew = w12 at BK196 BK197 HI0 HK HB hHeld ⊢
   refine pure_ (i := 0) (N := some 29) (v := ?_) (a' := ?_) #[true, false, false, false, false, false, false, false, false, false, false, false, false, false, false] rfl rfl (any_of HT_.out (by kernel_rfl)) (fun _ _ _ h => h) (Or.inl ⟨by rfl, ?_⟩) ?_ ?_
   rotate_left
   ·intro w'
    go_simp
    with_reducible rfl
   rotate_left
   ·simp only [Act.put, List.setIfInBounds_toArray, List.set_cons_zero, List.set_cons_succ, i64_w, i32_w]
    rfl
   refine pure_ (i := 1) (N := some 30) (v := ?_) (a' := ?_) #[true, true, false, false, false, false, false, false, false, false, false, false, false, false, false] rfl rfl (any_of HT_.out (by kernel_rfl)) (fun _ _ _ h => h) (Or.inl ⟨by rfl, ?_⟩) ?_ ?_
   rotate_left
   ·intro w'
    go_simp
    with_reducible rfl
   rotate_left
   ·simp only [Act.put, List.setIfInBounds_toArray, List.set_cons_zero, List.set_cons_succ, i64_w, i32_w]
    rfl
   refine pure_ (i := 2) (N := some 31) (v := ?_) (a' := ?_) #[true, true, true, false, false, false, false, false, false, false, false, false, false, false, false] rfl rfl (any_of HT_.out (by kernel_rfl)) (fun _ _ _ h => h) (Or.inl ⟨by rfl, ?_⟩) ?_ ?_
   rotate_left
   ·intro w'
    go_simp
    with_reducible rfl
   rotate_left
   ·simp only [Act.put, List.setIfInBounds_toArray, List.set_cons_zero, List.set_cons_succ, i64_w, i32_w]
    rfl
   refine pure_ (i := 4) (N := some 33) (v := ?_) (a' := ?_) #[true, true, true, false, true, false, false, false, false, false, false, false, false, false, false] rfl rfl (any_of HT_.out (by kernel_rfl)) (fun _ _ _ h => h) (Or.inl ⟨by rfl, ?_⟩) ?_ ?_
   rotate_left
   ·intro w'
    go_simp
    with_reducible rfl
   rotate_left
   ·simp only [Act.put, List.setIfInBounds_toArray, List.set_cons_zero, List.set_cons_succ, i64_w, i32_w]
    rfl
   refine pure_ (i := 5) (N := some 34) (v := ?_) (a' := ?_) #[true, true, true, false, true, true, false, false, false, false, false, false, false, false, false] rfl rfl (any_of HT_.out (by kernel_rfl)) (fun _ _ _ h => h) (Or.inl ⟨by rfl, ?_⟩) ?_ ?_
   rotate_left
   ·intro w'
    go_simp
    with_reducible rfl
   rotate_left
   ·simp only [Act.put, List.setIfInBounds_toArray, List.set_cons_zero, List.set_cons_succ, i64_w, i32_w]
    rfl
   refine pure_ (i := 6) (N := some 35) (v := ?_) (a' := ?_) #[true, true, true, false, true, true, true, false, false, false, false, false, false, false, false] rfl rfl (any_of HT_.out (by kernel_rfl)) (fun _ _ _ h => h) (Or.inl ⟨by rfl, ?_⟩) ?_ ?_
   rotate_left
   ·intro w'
    go_simp
    with_reducible rfl
   rotate_left
   ·simp only [Act.put, List.setIfInBounds_toArray, List.set_cons_zero, List.set_cons_succ, i64_w, i32_w]
    rfl
   refine pure_ (i := 8) (N := some 37) (v := ?_) (a' := ?_) #[true, true, true, false, true, true, true, false, true, false, false, false, false, false, false] rfl rfl (any_of HT_.out (by kernel_rfl)) (fun _ _ _ h => h) (Or.inl ⟨by rfl, ?_⟩) ?_ ?_
   rotate_left
   ·intro w'
    go_simp
    with_reducible rfl
   rotate_left
   ·simp only [Act.put, List.setIfInBounds_toArray, List.set_cons_zero, List.set_cons_succ, i64_w, i32_w]
    rfl
   refine pure_ (i := 9) (N := some 38) (v := ?_) (a' := ?_) #[true, true, true, false, true, true, true, false, true, true, false, false, false, false, false] rfl rfl (any_of HT_.out (by kernel_rfl)) (fun _ _ _ h => h) (Or.inl ⟨by rfl, ?_⟩) ?_ ?_
   rotate_left
   ·intro w'
    go_simp
    with_reducible rfl
   rotate_left
   ·simp only [Act.put, List.setIfInBounds_toArray, List.set_cons_zero, List.set_cons_succ, i64_w, i32_w]
    rfl
   refine pure_ (i := 10) (N := some 39) (v := ?_) (a' := ?_) #[true, true, true, false, true, true, true, false, true, true, true, false, false, false, false] rfl rfl (any_of HT_.out (by kernel_rfl)) (fun _ _ _ h => h) (Or.inl ⟨by rfl, ?_⟩) ?_ ?_
   rotate_left
   ·intro w'
    go_simp
    with_reducible rfl
   rotate_left
   ·simp only [Act.put, List.setIfInBounds_toArray, List.set_cons_zero, List.set_cons_succ, i64_w, i32_w]
    rfl
   refine take_ (i := 3) (N := some 32) (v := ?_) (a' := ?_) #[true, true, true, true, true, true, true, false, true, true, true, false, false, false, false] rfl rfl (take_ofW HT_.out HW_.out (by kernel_rfl)) (fun _ _ _ h => h) (Or.inl ⟨by rfl, ?_⟩) hHeld ?_ ?_
   rotate_left
   ·rintro w' ⟨s0, s1, s2, s3⟩
    go_simp
    with_reducible rfl
   rotate_left
   ·simp only [Act.put, List.setIfInBounds_toArray, List.set_cons_zero, List.set_cons_succ, i64_w, i32_w]
    rfl
   refine take_ (i := 7) (N := some 36) (v := ?_) (a' := ?_) #[true, true, true, true, true, true, true, true, true, true, true, false, false, false, false] rfl rfl (take_ofW HT_.out HW_.out (by kernel_rfl)) (fun _ _ _ h => h) (Or.inl ⟨by rfl, ?_⟩) hHeld ?_ ?_
   rotate_left
   ·rintro w' ⟨s0, s1, s2, s3⟩
    go_simp
    with_reducible rfl
   rotate_left
   ·simp only [Act.put, List.setIfInBounds_toArray, List.set_cons_zero, List.set_cons_succ, i64_w, i32_w]
    rfl
   refine take_ (i := 11) (N := some 40) (v := ?_) (a' := ?_) #[true, true, true, true, true, true, true, true, true, true, true, true, false, false, false] rfl rfl (take_ofW HT_.out HW_.out (by kernel_rfl)) (fun _ _ _ h => h) (Or.inl ⟨by rfl, ?_⟩) hHeld ?_ ?_
   rotate_left
   ·rintro w' ⟨s0, s1, s2, s3⟩
    go_simp
    with_reducible rfl
   rotate_left
   ·simp only [Act.put, List.setIfInBounds_toArray, List.set_cons_zero, List.set_cons_succ, i64_w, i32_w]
    rfl
   refine pure_ (i := 12) (N := some 41) (v := ?_) (a' := ?_) #[true, true, true, true, true, true, true, true, true, true, true, true, true, false, false] rfl rfl (any_of HT_.out (by kernel_rfl)) (fun _ _ _ h => h) (Or.inl ⟨by rfl, ?_⟩) ?_ ?_
   rotate_left
   ·intro w'
    go_simp
    with_reducible rfl
   rotate_left
   ·simp only [Act.put, List.setIfInBounds_toArray, List.set_cons_zero, List.set_cons_succ, i64_w, i32_w]
    rfl
   refine one_ (i := 13) (N := some 9) #[true, true, true, true, true, true, true, true, true, true, true, true, true, true, false] rfl rfl (one_of HT_.out (by kernel_rfl)) (by decide) (fun K hK => ?_)
   refine box_step ?hg (N := 9) ?hd (cs := #[.int .i64 0, .string (⟨#[]⟩ : ByteArray), .bool false]) (t := 50) ?hr ?_; (case hd => rfl); (case hg => rfl); (case hr => first | (go_simp; done) | (go_simp; rfl))
   intro gb204 hg w13 hbox hb
   have n0_ := Aside0.mk (IsS49.below (by repeat (first | (with_reducible first | exact HI0.out | apply IsS49.alloc | apply IsS49.drewN | apply IsS49.drew | apply IsS49.set_0 | apply IsS49.set_1 | apply IsS49.set_2 | apply IsS49.set_3 | refine IsS49.far ?_ NB0_196.out _ | apply IsS49.far (hne := NB0_196.out) | refine IsS49.far ?_ NB0_197.out _ | apply IsS49.far (hne := NB0_197.out)) | exact HI0.out)) hb)
   have n1_ := Aside0.mk (blk_below (g := gb196) (o := .cells #[.int .i64 a1_0, .int .i64 a1_1, .int .i64 a1_2, .string a1_3] 39 (0, 0)) (by (with_reducible repeat (first | refine blk_drewN ?_ _ | refine blk_drew ?_ | refine blk_alloc ?_ _)); exact BK196.out) hb)
   have n2_ := Aside0.mk (blk_below (g := gb197) (o := .cells #[.int .i64 0, .string (⟨#[]⟩ : ByteArray), .bool false] 50 (0, 0)) (by (with_reducible repeat (first | refine blk_drewN ?_ _ | refine blk_drew ?_ | refine blk_alloc ?_ _)); exact BK197.out) hb)
   have n3_ := Aside0.mk (KeepBut.trans (by repeat (first | (with_reducible first | exact HK.out | apply KeepBut.set_ | apply keep_drewN | apply keep_drew | apply keep_alloc | refine keep_far ?_ GW196.out _ | refine keep_far ?_ GW197.out _) | exact HK.out)) (KeepBut.of_below hb g none) (.inl rfl))
   have n4_ := Aside0.mk (below_step (by repeat (first | (with_reducible first | exact HB.out | apply below_alloc | apply pw_below_drewN | apply below_drew1 | refine below_set ?_ (IsS49.ge HI0.out) | refine below_set ?_ GE196.out | refine below_set ?_ GE197.out) | exact HB.out)) hb)
   have n5_ := Aside0.mk (hbox)
   have n6_ := Aside0.mk ((by rw [hg]; exact (keep_size (w := w) (g := g) (row := none) (by repeat (first | (with_reducible first | exact HK.out | apply KeepBut.set_ | apply keep_drewN | apply keep_drew | apply keep_alloc | refine keep_far ?_ GW196.out _ | refine keep_far ?_ GW197.out _) | exact HK.out))) : w.heap.size ≤ gb204))
   have n7_ := Aside0.mk ((Nat.le_trans HW0.out (by rw [hg]; exact (keep_size (w := w) (g := g) (row := none) (by repeat (first | (with_reducible first | exact HK.out | apply KeepBut.set_ | apply keep_drewN | apply keep_drew | apply keep_alloc | refine keep_far ?_ GW196.out _ | refine keep_far ?_ GW197.out _) | exact HK.out))) : w.heap.size ≤ gb204) : w0.heap.size ≤ gb204))
   have n8_ := Aside0.mk ((by rw [hg]; exact Nat.ne_of_lt (blk_lt (g := gb196) (o := .cells #[.int .i64 a1_0, .int .i64 a1_1, .int .i64 a1_2, .string a1_3] 39 (0, 0)) (by (with_reducible repeat (first | refine blk_drewN ?_ _ | refine blk_drew ?_ | refine blk_alloc ?_ _)); exact BK196.out)) : gb196 ≠ gb204))
   have n9_ := Aside0.mk ((by rw [hg]; exact Nat.ne_of_gt (blk_lt (g := gb196) (o := .cells #[.int .i64 a1_0, .int .i64 a1_1, .int .i64 a1_2, .string a1_3] 39 (0, 0)) (by (with_reducible repeat (first | refine blk_drewN ?_ _ | refine blk_drew ?_ | refine blk_alloc ?_ _)); exact BK196.out)) : gb204 ≠ gb196))
   have n10_ := Aside0.mk ((by rw [hg]; exact Nat.ne_of_lt (blk_lt (g := gb197) (o := .cells #[.int .i64 0, .string (⟨#[]⟩ : ByteArray), .bool false] 50 (0, 0)) (by (with_reducible repeat (first | refine blk_drewN ?_ _ | refine blk_drew ?_ | refine blk_alloc ?_ _)); exact BK197.out)) : gb197 ≠ gb204))
   have n11_ := Aside0.mk ((by rw [hg]; exact Nat.ne_of_gt (blk_lt (g := gb197) (o := .cells #[.int .i64 0, .string (⟨#[]⟩ : ByteArray), .bool false] 50 (0, 0)) (by (with_reducible repeat (first | refine blk_drewN ?_ _ | refine blk_drew ?_ | refine blk_alloc ?_ _)); exact BK197.out)) : gb204 ≠ gb197))
   have n12_ := Aside0.mk ((by rw [hg]; exact Nat.ne_of_lt (IsS49.lt (show IsS49 w0 _ g t200 t201 t202 t203 from by repeat (first | (with_reducible first | exact HI0.out | apply IsS49.alloc | apply IsS49.drewN | apply IsS49.drew | apply IsS49.set_0 | apply IsS49.set_1 | apply IsS49.set_2 | apply IsS49.set_3 | refine IsS49.far ?_ NB0_196.out _ | apply IsS49.far (hne := NB0_196.out) | refine IsS49.far ?_ NB0_197.out _ | apply IsS49.far (hne := NB0_197.out)) | exact HI0.out))) : g ≠ gb204))
   have n13_ := Aside0.mk ((by rw [hg]; exact Nat.ne_of_gt (IsS49.lt (show IsS49 w0 _ g t200 t201 t202 t203 from by repeat (first | (with_reducible first | exact HI0.out | apply IsS49.alloc | apply IsS49.drewN | apply IsS49.drew | apply IsS49.set_0 | apply IsS49.set_1 | apply IsS49.set_2 | apply IsS49.set_3 | refine IsS49.far ?_ NB0_196.out _ | apply IsS49.far (hne := NB0_196.out) | refine IsS49.far ?_ NB0_197.out _ | apply IsS49.far (hne := NB0_197.out)) | exact HI0.out))) : gb204 ≠ g))
   clear HI0
   clear BK196
   clear BK197
   clear HK
   clear HB
   have HI0 := n0_
   have BK196 := n1_
   have BK197 := n2_
   have HK := n3_
   have HB := n4_
   have BK204 := n5_
   have GW204 := n6_
   have GE204 := n7_
   have NB196_204 := n8_
   have NB204_196 := n9_
   have NB197_204 := n10_
   have NB204_197 := n11_
   have NB0_204 := n12_
   have NB204_0 := n13_
   clear n0_ n1_ n2_ n3_ n4_ n5_ n6_ n7_ n8_ n9_ n10_ n11_ n12_ n13_
   clear hb hbox hg
   refine hK.out _ _ ⟨cellS49_0 HI0.out.1, cellS49_1 HI0.out.1, cellS49_2 HI0.out.1, cellS49_3 HI0.out.1⟩ (fun hHeld => ?_)
   clear hK K
   refine norm_ (a' := ?_) ?_ ?_
   rotate_left
   ·show Act.put _ (some 9) _ = _
    simp only [Act.put, List.setIfInBounds_toArray, List.set_cons_zero, List.set_cons_succ, i64_w, i32_w]
    rfl
   refine one_ (i := 14) (N := none) #[true, true, true, true, true, true, true, true, true, true, true, true, true, true, true] rfl rfl (one_of HT_.out (by kernel_rfl)) (by decide) (fun K hK => ?_)
   have hs14 : w13.cell? ⟨gb204, 0, none⟩ = some (.int .i64 0) := (blk_cell BK204.out 0).trans rfl
   have hfs14 := blk_frozen BK204.out 0
   have hns14_0 := NB196_204.out
   have hns14_1 := NB197_204.out
   have hms14_0 := NB204_196.out
   have hms14_1 := NB204_197.out
   have hs15 : w13.cell? ⟨gb204, 1, none⟩ = some (.string (⟨#[]⟩ : ByteArray)) := (blk_cell BK204.out 1).trans rfl
   have hfs15 := blk_frozen BK204.out 1
   have hns15_0 := NB196_204.out
   have hns15_1 := NB197_204.out
   have hms15_0 := NB204_196.out
   have hms15_1 := NB204_197.out
   have hs16 : w13.cell? ⟨gb204, 2, none⟩ = some (.bool false) := (blk_cell BK204.out 2).trans rfl
   have hfs16 := blk_frozen BK204.out 2
   have hns16_0 := NB196_204.out
   have hns16_1 := NB197_204.out
   have hms16_0 := NB204_196.out
   have hms16_1 := NB204_197.out
   refine skip_ (w1 := ?_) (by rfl) rfl ?_ ?_
   rotate_left
   ·go_simp
    rfl
   refine hK.out _ _ ⟨((cell_far (p := ⟨gb204, _, none⟩) NB0_204.out _).trans (((cell_far (p := ⟨gb204, _, none⟩) NB0_204.out _).trans (((cell_far (p := ⟨gb204, _, none⟩) NB0_204.out _).trans (hHeld.1)))))), ((cell_far (p := ⟨gb204, _, none⟩) NB0_204.out _).trans (((cell_far (p := ⟨gb204, _, none⟩) NB0_204.out _).trans (((cell_far (p := ⟨gb204, _, none⟩) NB0_204.out _).trans (hHeld.2.1)))))), ((cell_far (p := ⟨gb204, _, none⟩) NB0_204.out _).trans (((cell_far (p := ⟨gb204, _, none⟩) NB0_204.out _).trans (((cell_far (p := ⟨gb204, _, none⟩) NB0_204.out _).trans (hHeld.2.2.1)))))), ((cell_far (p := ⟨gb204, _, none⟩) NB0_204.out _).trans (((cell_far (p := ⟨gb204, _, none⟩) NB0_204.out _).trans (((cell_far (p := ⟨gb204, _, none⟩) NB0_204.out _).trans (hHeld.2.2.2))))))⟩ (fun hHeld => ?_)
   clear hK K
   refine done_ (done_of HT_.out (by kernel_rfl)) ?_
   obtain ⟨HGz17, hgz17⟩ := HI0.out
   have hcz17_0 := cellS49_0 HGz17
   have hcz17_1 := cellS49_1 HGz17
   have hcz17_2 := cellS49_2 HGz17
   have hcz17_3 := cellS49_3 HGz17
   have hfz17_0 := blk_frozen HGz17 0
   have hfz17_1 := blk_frozen HGz17 1
   have hfz17_2 := blk_frozen HGz17 2
   have hfz17_3 := blk_frozen HGz17 3
   clear HGz17 hgz17
   have hnb18 := NB204_196.out
   have hnc18 := NB196_204.out
   have hnb19 := NB204_197.out
   have hnc19 := NB197_204.out
   have hnb20 := NB204_0.out
   have hnc20 := NB0_204.out
   have hcz21_0 : w13.cell? ⟨gb204, 0, none⟩ = some (.int .i64 0) := (blk_cell BK204.out 0).trans rfl
   have hcz21_1 : w13.cell? ⟨gb204, 1, none⟩ = some (.string (⟨#[]⟩ : ByteArray)) := (blk_cell BK204.out 1).trans rfl
   have hcz21_2 : w13.cell? ⟨gb204, 2, none⟩ = some (.bool false) := (blk_cell BK204.out 2).trans rfl
   have hfz21_0 := blk_frozen BK204.out 0
   have hfz21_1 := blk_frozen BK204.out 1
   have hfz21_2 := blk_frozen BK204.out 2
   have hnb22 := NB197_0.out
   have hnc22 := NB0_197.out
   have hcz23_0 : w13.cell? ⟨gb197, 0, none⟩ = some (.int .i64 0) := (blk_cell BK197.out 0).trans rfl
   have hcz23_1 : w13.cell? ⟨gb197, 1, none⟩ = some (.string (⟨#[]⟩ : ByteArray)) := (blk_cell BK197.out 1).trans rfl
   have hcz23_2 : w13.cell? ⟨gb197, 2, none⟩ = some (.bool false) := (blk_cell BK197.out 2).trans rfl
   have hfz23_0 := blk_frozen BK197.out 0
   have hfz23_1 := blk_frozen BK197.out 1
   have hfz23_2 := blk_frozen BK197.out 2
   try go_wp2
   refine bodyPost_ret (results_ctt rfl _ _ gb197 50 #[.int .i64 t201, .string t202, .bool t203] (0, 0) _ rfl (by (with_reducible repeat (first | refine blk_drewN ?_ _ | refine blk_drew ?_ | refine blk_alloc ?_ _)); refine blk_put (cs := #[.int .i64 t201, .string t202, .bool false]) ?_ 2 _ rfl; (with_reducible repeat (first | refine blk_drewN ?_ _ | refine blk_drew ?_ | refine blk_alloc ?_ _)); refine blk_put (cs := #[.int .i64 t201, .string (⟨#[]⟩ : ByteArray), .bool false]) ?_ 1 _ rfl; (with_reducible repeat (first | refine blk_drewN ?_ _ | refine blk_drew ?_ | refine blk_alloc ?_ _)); refine blk_put (cs := #[.int .i64 0, .string (⟨#[]⟩ : ByteArray), .bool false]) ?_ 0 _ rfl; (with_reducible repeat (first | refine blk_drewN ?_ _ | refine blk_drew ?_ | refine blk_alloc ?_ _)); refine blk_far ?_ NB197_0.out _; (with_reducible repeat (first | refine blk_drewN ?_ _ | refine blk_drew ?_ | refine blk_alloc ?_ _)); refine blk_far ?_ NB197_0.out _; (with_reducible repeat (first | refine blk_drewN ?_ _ | refine blk_drew ?_ | refine blk_alloc ?_ _)); refine blk_far ?_ NB197_204.out _; (with_reducible repeat (first | refine blk_drewN ?_ _ | refine blk_drew ?_ | refine blk_alloc ?_ _)); refine blk_far ?_ NB197_204.out _; (with_reducible repeat (first | refine blk_drewN ?_ _ | refine blk_drew ?_ | refine blk_alloc ?_ _)); refine blk_far ?_ NB197_204.out _; (with_reducible repeat (first | refine blk_drewN ?_ _ | refine blk_drew ?_ | refine blk_alloc ?_ _)); exact BK197.out) Try.underlying50 rfl (by kernel_rfl)) rfl ?_
   exact ⟨by first | rfl | (simp [errW_none, errW_some] <;> rfl) | (simp [*, errW_none, errW_some] <;> rfl), by repeat (first | (with_reducible first | exact HI0.out | apply IsS49.alloc | apply IsS49.drewN | apply IsS49.drew | apply IsS49.set_0 | apply IsS49.set_1 | apply IsS49.set_2 | apply IsS49.set_3 | refine IsS49.far ?_ NB0_196.out _ | apply IsS49.far (hne := NB0_196.out) | refine IsS49.far ?_ NB0_197.out _ | apply IsS49.far (hne := NB0_197.out) | refine IsS49.far ?_ NB0_204.out _ | apply IsS49.far (hne := NB0_204.out)) | exact HI0.out), by repeat (first | (with_reducible first | exact HB.out | apply below_alloc | apply pw_below_drewN | apply below_drew1 | refine below_set ?_ (IsS49.ge HI0.out) | refine below_set ?_ GE196.out | refine below_set ?_ GE197.out | refine below_set ?_ GE204.out) | exact HB.out), by repeat (first | (with_reducible first | exact HK.out | apply KeepBut.set_ | apply keep_drewN | apply keep_drew | apply keep_alloc | refine keep_far ?_ GW196.out _ | refine keep_far ?_ GW197.out _ | refine keep_far ?_ GW204.out _) | exact HK.out)⟩
  ·replace c5 := Bool.eq_false_iff.mpr c5
   subst c5
   have H1 : (some (0, (⟨#[]⟩ : ByteArray), false, false, 0, t200, t201, t202, t203)) = some (r1, r2, r3, r4, r5, r6, r7, r8, r9) := by rw [if_neg (show ¬ (false = true) by decide)] at H; exact H
   clear H
   have H := H1
   clear H1
   simp only [Option.some.injEq, Prod.mk.injEq] at H
   obtain ⟨rfl, rfl, rfl, rfl, rfl, rfl, rfl, rfl, rfl⟩ := H
   go_enter Try.func19, Try.ntmps19
   go_wp2_with (first | ((with_reducible refine gate_dst (N := 3) rfl ?_); refine box_event ?hg (N := 3) ?hd (cs := #[.int .i64 a1_0, .int .i64 a1_1, .int .i64 a1_2, .string a1_3]) (t := 39) ?hr ?_; (case hd => rfl); (case hg => rfl); (case hr => first | (go_simp; done) | (go_simp; rfl)); intro gb196 hg w24 hbox hb; have n0_ := Aside0.mk (IsS49.below (by repeat (first | (with_reducible first | exact HI0.out | apply IsS49.alloc | apply IsS49.drewN | apply IsS49.drew | apply IsS49.set_0 | apply IsS49.set_1 | apply IsS49.set_2 | apply IsS49.set_3) | exact HI0.out)) hb); have n1_ := Aside0.mk (KeepBut.trans (by repeat (first | (with_reducible first | exact HK.out | apply KeepBut.set_ | apply keep_drewN | apply keep_drew | apply keep_alloc) | exact HK.out)) (KeepBut.of_below hb g none) (.inl rfl)); have n2_ := Aside0.mk (below_step (by repeat (first | (with_reducible first | exact HB.out | apply below_alloc | apply pw_below_drewN | apply below_drew1 | refine below_set ?_ (IsS49.ge HI0.out)) | exact HB.out)) hb); have n3_ := Aside0.mk (hbox); have n4_ := Aside0.mk ((by rw [hg]; exact (keep_size (w := w) (g := g) (row := none) (by repeat (first | (with_reducible first | exact HK.out | apply KeepBut.set_ | apply keep_drewN | apply keep_drew | apply keep_alloc) | exact HK.out))) : w.heap.size ≤ gb196)); have n5_ := Aside0.mk ((Nat.le_trans HW0.out (by rw [hg]; exact (keep_size (w := w) (g := g) (row := none) (by repeat (first | (with_reducible first | exact HK.out | apply KeepBut.set_ | apply keep_drewN | apply keep_drew | apply keep_alloc) | exact HK.out))) : w.heap.size ≤ gb196) : w0.heap.size ≤ gb196)); have n6_ := Aside0.mk ((by rw [hg]; exact Nat.ne_of_lt (IsS49.lt (show IsS49 w0 _ g s0_0 s0_1 s0_2 s0_3 from by repeat (first | (with_reducible first | exact HI0.out | apply IsS49.alloc | apply IsS49.drewN | apply IsS49.drew | apply IsS49.set_0 | apply IsS49.set_1 | apply IsS49.set_2 | apply IsS49.set_3) | exact HI0.out))) : g ≠ gb196)); have n7_ := Aside0.mk ((by rw [hg]; exact Nat.ne_of_gt (IsS49.lt (show IsS49 w0 _ g s0_0 s0_1 s0_2 s0_3 from by repeat (first | (with_reducible first | exact HI0.out | apply IsS49.alloc | apply IsS49.drewN | apply IsS49.drew | apply IsS49.set_0 | apply IsS49.set_1 | apply IsS49.set_2 | apply IsS49.set_3) | exact HI0.out))) : gb196 ≠ g)); clear HI0; clear HK; clear HB; have HI0 := n0_; have HK := n1_; have HB := n2_; have BK196 := n3_; have GW196 := n4_; have GE196 := n5_; have NB0_196 := n6_; have NB196_0 := n7_; clear n0_ n1_ n2_ n3_ n4_ n5_ n6_ n7_; clear hb hbox hg) | ((with_reducible refine gate_dst (N := 4) rfl ?_); refine box_event ?hg (N := 4) ?hd (cs := #[.int .i64 0, .string (⟨#[]⟩ : ByteArray), .bool false]) (t := 50) ?hr ?_; (case hd => rfl); (case hg => rfl); (case hr => first | (go_simp; done) | (go_simp; rfl)); intro gb197 hg w25 hbox hb; have n0_ := Aside0.mk (IsS49.below (by repeat (first | (with_reducible first | exact HI0.out | apply IsS49.alloc | apply IsS49.drewN | apply IsS49.drew | apply IsS49.set_0 | apply IsS49.set_1 | apply IsS49.set_2 | apply IsS49.set_3 | refine IsS49.far ?_ NB0_196.out _ | apply IsS49.far (hne := NB0_196.out)) | exact HI0.out)) hb); have n1_ := Aside0.mk (blk_below (g := gb196) (o := .cells #[.int .i64 a1_0, .int .i64 a1_1, .int .i64 a1_2, .string a1_3] 39 (0, 0)) (by (with_reducible repeat (first | refine blk_drewN ?_ _ | refine blk_drew ?_ | refine blk_alloc ?_ _)); exact BK196.out) hb); have n2_ := Aside0.mk (KeepBut.trans (by repeat (first | (with_reducible first | exact HK.out | apply KeepBut.set_ | apply keep_drewN | apply keep_drew | apply keep_alloc | refine keep_far ?_ GW196.out _) | exact HK.out)) (KeepBut.of_below hb g none) (.inl rfl)); have n3_ := Aside0.mk (below_step (by repeat (first | (with_reducible first | exact HB.out | apply below_alloc | apply pw_below_drewN | apply below_drew1 | refine below_set ?_ (IsS49.ge HI0.out) | refine below_set ?_ GE196.out) | exact HB.out)) hb); have n4_ := Aside0.mk (hbox); have n5_ := Aside0.mk ((by rw [hg]; exact (keep_size (w := w) (g := g) (row := none) (by repeat (first | (with_reducible first | exact HK.out | apply KeepBut.set_ | apply keep_drewN | apply keep_drew | apply keep_alloc | refine keep_far ?_ GW196.out _) | exact HK.out))) : w.heap.size ≤ gb197)); have n6_ := Aside0.mk ((Nat.le_trans HW0.out (by rw [hg]; exact (keep_size (w := w) (g := g) (row := none) (by repeat (first | (with_reducible first | exact HK.out | apply KeepBut.set_ | apply keep_drewN | apply keep_drew | apply keep_alloc | refine keep_far ?_ GW196.out _) | exact HK.out))) : w.heap.size ≤ gb197) : w0.heap.size ≤ gb197)); have n7_ := Aside0.mk ((by rw [hg]; exact Nat.ne_of_lt (blk_lt (g := gb196) (o := .cells #[.int .i64 a1_0, .int .i64 a1_1, .int .i64 a1_2, .string a1_3] 39 (0, 0)) (by (with_reducible repeat (first | refine blk_drewN ?_ _ | refine blk_drew ?_ | refine blk_alloc ?_ _)); exact BK196.out)) : gb196 ≠ gb197)); have n8_ := Aside0.mk ((by rw [hg]; exact Nat.ne_of_gt (blk_lt (g := gb196) (o := .cells #[.int .i64 a1_0, .int .i64 a1_1, .int .i64 a1_2, .string a1_3] 39 (0, 0)) (by (with_reducible repeat (first | refine blk_drewN ?_ _ | refine blk_drew ?_ | refine blk_alloc ?_ _)); exact BK196.out)) : gb197 ≠ gb196)); have n9_ := Aside0.mk ((by rw [hg]; exact Nat.ne_of_lt (IsS49.lt (show IsS49 w0 _ g s0_0 s0_1 s0_2 s0_3 from by repeat (first | (with_reducible first | exact HI0.out | apply IsS49.alloc | apply IsS49.drewN | apply IsS49.drew | apply IsS49.set_0 | apply IsS49.set_1 | apply IsS49.set_2 | apply IsS49.set_3 | refine IsS49.far ?_ NB0_196.out _ | apply IsS49.far (hne := NB0_196.out)) | exact HI0.out))) : g ≠ gb197)); have n10_ := Aside0.mk ((by rw [hg]; exact Nat.ne_of_gt (IsS49.lt (show IsS49 w0 _ g s0_0 s0_1 s0_2 s0_3 from by repeat (first | (with_reducible first | exact HI0.out | apply IsS49.alloc | apply IsS49.drewN | apply IsS49.drew | apply IsS49.set_0 | apply IsS49.set_1 | apply IsS49.set_2 | apply IsS49.set_3 | refine IsS49.far ?_ NB0_196.out _ | apply IsS49.far (hne := NB0_196.out)) | exact HI0.out))) : gb197 ≠ g)); clear HI0; clear BK196; clear HK; clear HB; have HI0 := n0_; have BK196 := n1_; have HK := n2_; have HB := n3_; have BK197 := n4_; have GW197 := n5_; have GE197 := n6_; have NB196_197 := n7_; have NB197_196 := n8_; have NB0_197 := n9_; have NB197_0 := n10_; clear n0_ n1_ n2_ n3_ n4_ n5_ n6_ n7_ n8_ n9_ n10_; clear hb hbox hg; have hnb26 := NB196_197.out; have hnc26 := NB197_196.out; have hnb27 := NB196_0.out; have hnc27 := NB0_196.out; have hcz28_0 : w25.cell? ⟨gb196, 0, none⟩ = some (.int .i64 a1_0) := (blk_cell BK196.out 0).trans rfl; have hcz28_1 : w25.cell? ⟨gb196, 1, none⟩ = some (.int .i64 a1_1) := (blk_cell BK196.out 1).trans rfl; have hcz28_2 : w25.cell? ⟨gb196, 2, none⟩ = some (.int .i64 a1_2) := (blk_cell BK196.out 2).trans rfl; have hcz28_3 : w25.cell? ⟨gb196, 3, none⟩ = some (.string a1_3) := (blk_cell BK196.out 3).trans rfl; have hfz28_0 := blk_frozen BK196.out 0; have hfz28_1 := blk_frozen BK196.out 1; have hfz28_2 := blk_frozen BK196.out 2; have hfz28_3 := blk_frozen BK196.out 3) | ((with_reducible refine gate_callee (f := 43) rfl ?_); refine goesL_ (some 13) rfl rfl Try.func43 (by kernel_rfl) rfl #[.pointer (some ⟨g, 0, none⟩), .agg #[.int .i64 a1_0, .int .i64 a1_1, .int .i64 a1_2, .string a1_3]] rfl (by (try simp only [List.map_toArray, List.map_cons, List.map_nil]); first | done | rfl | (simp only [List.length_drop, List.length_take]; rfl)) ?_; (with_reducible refine (bywashref1_Blocks_take.calls k g s0_0 s0_1 s0_2 s0_3 a1_0 a1_1 a1_2 a1_3 false t199 t200 t201 t202 t203 w0 _ ?side1 ?side2 A3.out).mono ?_); (case side1 => repeat (first | (with_reducible first | exact HI0.out | apply IsS49.alloc | apply IsS49.drewN | apply IsS49.drew | apply IsS49.set_0 | apply IsS49.set_1 | apply IsS49.set_2 | apply IsS49.set_3 | refine IsS49.far ?_ NB0_196.out _ | apply IsS49.far (hne := NB0_196.out) | refine IsS49.far ?_ NB0_197.out _ | apply IsS49.far (hne := NB0_197.out)) | exact HI0.out)); (case side2 => repeat (first | (with_reducible first | exact HB.out | apply below_alloc | apply pw_below_drewN | apply below_drew1 | refine below_set ?_ (IsS49.ge HI0.out) | refine below_set ?_ GE196.out | refine below_set ?_ GE197.out) | exact HB.out)); rintro e w29 ⟨rfl, hi, hb, hk⟩; refine ⟨_, rfl, ?_⟩; have n0_ := Aside0.mk (KeepBut.blk hk (g' := gb196) (o := .cells #[.int .i64 a1_0, .int .i64 a1_1, .int .i64 a1_2, .string a1_3] 39 (0, 0)) (by (with_reducible repeat (first | refine blk_drewN ?_ _ | refine blk_drew ?_ | refine blk_alloc ?_ _)); exact BK196.out) NB196_0.out (by simp)); have n1_ := Aside0.mk (KeepBut.blk hk (g' := gb197) (o := .cells #[.int .i64 0, .string (⟨#[]⟩ : ByteArray), .bool false] 50 (0, 0)) (by (with_reducible repeat (first | refine blk_drewN ?_ _ | refine blk_drew ?_ | refine blk_alloc ?_ _)); exact BK197.out) NB197_0.out (by simp)); have n2_ := Aside0.mk (KeepBut.trans (by repeat (first | (with_reducible first | exact HK.out | apply KeepBut.set_ | apply keep_drewN | apply keep_drew | apply keep_alloc | refine keep_far ?_ GW196.out _ | refine keep_far ?_ GW197.out _) | exact HK.out)) hk (.inl rfl)); have n3_ := Aside0.mk (hb); have n4_ := Aside0.mk (hi); clear BK196; clear BK197; clear HK; clear HB; clear HI0; have BK196 := n0_; have BK197 := n1_; have HK := n2_; have HB := n3_; have HI0 := n4_; clear n0_ n1_ n2_ n3_ n4_; (try clear hb); (try clear hb2); (try clear hk); (try clear hi); have hnb30 := NB197_0.out; have hnc30 := NB0_197.out; have hcz31_0 : w29.cell? ⟨gb197, 0, none⟩ = some (.int .i64 0) := (blk_cell BK197.out 0).trans rfl; have hcz31_1 : w29.cell? ⟨gb197, 1, none⟩ = some (.string (⟨#[]⟩ : ByteArray)) := (blk_cell BK197.out 1).trans rfl; have hcz31_2 : w29.cell? ⟨gb197, 2, none⟩ = some (.bool false) := (blk_cell BK197.out 2).trans rfl; have hfz31_0 := blk_frozen BK197.out 0; have hfz31_1 := blk_frozen BK197.out 1; have hfz31_2 := blk_frozen BK197.out 2))
   refine bodyPost_ret (results_ctt rfl _ _ gb197 50 #[.int .i64 0, .string (⟨#[]⟩ : ByteArray), .bool false] (0, 0) _ rfl (by (with_reducible repeat (first | refine blk_drewN ?_ _ | refine blk_drew ?_ | refine blk_alloc ?_ _)); refine blk_put (cs := #[.int .i64 0, .string (⟨#[]⟩ : ByteArray), .bool false]) ?_ 2 _ rfl; (with_reducible repeat (first | refine blk_drewN ?_ _ | refine blk_drew ?_ | refine blk_alloc ?_ _)); refine blk_put (cs := #[.int .i64 0, .string (⟨#[]⟩ : ByteArray), .bool false]) ?_ 1 _ rfl; (with_reducible repeat (first | refine blk_drewN ?_ _ | refine blk_drew ?_ | refine blk_alloc ?_ _)); refine blk_put (cs := #[.int .i64 0, .string (⟨#[]⟩ : ByteArray), .bool false]) ?_ 0 _ rfl; (with_reducible repeat (first | refine blk_drewN ?_ _ | refine blk_drew ?_ | refine blk_alloc ?_ _)); exact BK197.out) Try.underlying50 rfl (by kernel_rfl)) rfl ?_
   exact ⟨by first | rfl | (simp [errW_none, errW_some] <;> rfl) | (simp [*, errW_none, errW_some] <;> rfl), by repeat (first | (with_reducible first | exact HI0.out | apply IsS49.alloc | apply IsS49.drewN | apply IsS49.drew | apply IsS49.set_0 | apply IsS49.set_1 | apply IsS49.set_2 | apply IsS49.set_3 | refine IsS49.far ?_ NB0_196.out _ | apply IsS49.far (hne := NB0_196.out) | refine IsS49.far ?_ NB0_197.out _ | apply IsS49.far (hne := NB0_197.out)) | exact HI0.out), by repeat (first | (with_reducible first | exact HB.out | apply below_alloc | apply pw_below_drewN | apply below_drew1 | refine below_set ?_ (IsS49.ge HI0.out) | refine below_set ?_ GE196.out | refine below_set ?_ GE197.out) | exact HB.out), by repeat (first | (with_reducible first | exact HK.out | apply KeepBut.set_ | apply keep_drewN | apply keep_drew | apply keep_alloc | refine keep_far ?_ GW196.out _ | refine keep_far ?_ GW197.out _) | exact HK.out)⟩
 ·rw [if_neg c4] at H
  have c4b0 : (t199 == 0) = false := beq_eq_false_iff_ne.mpr c4
  have c4b1 : (t199 != 0) = true := bne_iff_ne.mpr c4
  simp only [Option.some.injEq, Prod.mk.injEq] at H
  obtain ⟨rfl, rfl, rfl, rfl, rfl, rfl, rfl, rfl, rfl⟩ := H
  go_enter Try.func19, Try.ntmps19
  go_wp2_with (first | ((with_reducible refine gate_dst (N := 3) rfl ?_); refine box_event ?hg (N := 3) ?hd (cs := #[.int .i64 a1_0, .int .i64 a1_1, .int .i64 a1_2, .string a1_3]) (t := 39) ?hr ?_; (case hd => rfl); (case hg => rfl); (case hr => first | (go_simp; done) | (go_simp; rfl)); intro gb196 hg w32 hbox hb; have n0_ := Aside0.mk (IsS49.below (by repeat (first | (with_reducible first | exact HI0.out | apply IsS49.alloc | apply IsS49.drewN | apply IsS49.drew | apply IsS49.set_0 | apply IsS49.set_1 | apply IsS49.set_2 | apply IsS49.set_3) | exact HI0.out)) hb); have n1_ := Aside0.mk (KeepBut.trans (by repeat (first | (with_reducible first | exact HK.out | apply KeepBut.set_ | apply keep_drewN | apply keep_drew | apply keep_alloc) | exact HK.out)) (KeepBut.of_below hb g none) (.inl rfl)); have n2_ := Aside0.mk (below_step (by repeat (first | (with_reducible first | exact HB.out | apply below_alloc | apply pw_below_drewN | apply below_drew1 | refine below_set ?_ (IsS49.ge HI0.out)) | exact HB.out)) hb); have n3_ := Aside0.mk (hbox); have n4_ := Aside0.mk ((by rw [hg]; exact (keep_size (w := w) (g := g) (row := none) (by repeat (first | (with_reducible first | exact HK.out | apply KeepBut.set_ | apply keep_drewN | apply keep_drew | apply keep_alloc) | exact HK.out))) : w.heap.size ≤ gb196)); have n5_ := Aside0.mk ((Nat.le_trans HW0.out (by rw [hg]; exact (keep_size (w := w) (g := g) (row := none) (by repeat (first | (with_reducible first | exact HK.out | apply KeepBut.set_ | apply keep_drewN | apply keep_drew | apply keep_alloc) | exact HK.out))) : w.heap.size ≤ gb196) : w0.heap.size ≤ gb196)); have n6_ := Aside0.mk ((by rw [hg]; exact Nat.ne_of_lt (IsS49.lt (show IsS49 w0 _ g s0_0 s0_1 s0_2 s0_3 from by repeat (first | (with_reducible first | exact HI0.out | apply IsS49.alloc | apply IsS49.drewN | apply IsS49.drew | apply IsS49.set_0 | apply IsS49.set_1 | apply IsS49.set_2 | apply IsS49.set_3) | exact HI0.out))) : g ≠ gb196)); have n7_ := Aside0.mk ((by rw [hg]; exact Nat.ne_of_gt (IsS49.lt (show IsS49 w0 _ g s0_0 s0_1 s0_2 s0_3 from by repeat (first | (with_reducible first | exact HI0.out | apply IsS49.alloc | apply IsS49.drewN | apply IsS49.drew | apply IsS49.set_0 | apply IsS49.set_1 | apply IsS49.set_2 | apply IsS49.set_3) | exact HI0.out))) : gb196 ≠ g)); clear HI0; clear HK; clear HB; have HI0 := n0_; have HK := n1_; have HB := n2_; have BK196 := n3_; have GW196 := n4_; have GE196 := n5_; have NB0_196 := n6_; have NB196_0 := n7_; clear n0_ n1_ n2_ n3_ n4_ n5_ n6_ n7_; clear hb hbox hg) | ((with_reducible refine gate_dst (N := 4) rfl ?_); refine box_event ?hg (N := 4) ?hd (cs := #[.int .i64 0, .string (⟨#[]⟩ : ByteArray), .bool false]) (t := 50) ?hr ?_; (case hd => rfl); (case hg => rfl); (case hr => first | (go_simp; done) | (go_simp; rfl)); intro gb197 hg w33 hbox hb; have n0_ := Aside0.mk (IsS49.below (by repeat (first | (with_reducible first | exact HI0.out | apply IsS49.alloc | apply IsS49.drewN | apply IsS49.drew | apply IsS49.set_0 | apply IsS49.set_1 | apply IsS49.set_2 | apply IsS49.set_3 | refine IsS49.far ?_ NB0_196.out _ | apply IsS49.far (hne := NB0_196.out)) | exact HI0.out)) hb); have n1_ := Aside0.mk (blk_below (g := gb196) (o := .cells #[.int .i64 a1_0, .int .i64 a1_1, .int .i64 a1_2, .string a1_3] 39 (0, 0)) (by (with_reducible repeat (first | refine blk_drewN ?_ _ | refine blk_drew ?_ | refine blk_alloc ?_ _)); exact BK196.out) hb); have n2_ := Aside0.mk (KeepBut.trans (by repeat (first | (with_reducible first | exact HK.out | apply KeepBut.set_ | apply keep_drewN | apply keep_drew | apply keep_alloc | refine keep_far ?_ GW196.out _) | exact HK.out)) (KeepBut.of_below hb g none) (.inl rfl)); have n3_ := Aside0.mk (below_step (by repeat (first | (with_reducible first | exact HB.out | apply below_alloc | apply pw_below_drewN | apply below_drew1 | refine below_set ?_ (IsS49.ge HI0.out) | refine below_set ?_ GE196.out) | exact HB.out)) hb); have n4_ := Aside0.mk (hbox); have n5_ := Aside0.mk ((by rw [hg]; exact (keep_size (w := w) (g := g) (row := none) (by repeat (first | (with_reducible first | exact HK.out | apply KeepBut.set_ | apply keep_drewN | apply keep_drew | apply keep_alloc | refine keep_far ?_ GW196.out _) | exact HK.out))) : w.heap.size ≤ gb197)); have n6_ := Aside0.mk ((Nat.le_trans HW0.out (by rw [hg]; exact (keep_size (w := w) (g := g) (row := none) (by repeat (first | (with_reducible first | exact HK.out | apply KeepBut.set_ | apply keep_drewN | apply keep_drew | apply keep_alloc | refine keep_far ?_ GW196.out _) | exact HK.out))) : w.heap.size ≤ gb197) : w0.heap.size ≤ gb197)); have n7_ := Aside0.mk ((by rw [hg]; exact Nat.ne_of_lt (blk_lt (g := gb196) (o := .cells #[.int .i64 a1_0, .int .i64 a1_1, .int .i64 a1_2, .string a1_3] 39 (0, 0)) (by (with_reducible repeat (first | refine blk_drewN ?_ _ | refine blk_drew ?_ | refine blk_alloc ?_ _)); exact BK196.out)) : gb196 ≠ gb197)); have n8_ := Aside0.mk ((by rw [hg]; exact Nat.ne_of_gt (blk_lt (g := gb196) (o := .cells #[.int .i64 a1_0, .int .i64 a1_1, .int .i64 a1_2, .string a1_3] 39 (0, 0)) (by (with_reducible repeat (first | refine blk_drewN ?_ _ | refine blk_drew ?_ | refine blk_alloc ?_ _)); exact BK196.out)) : gb197 ≠ gb196)); have n9_ := Aside0.mk ((by rw [hg]; exact Nat.ne_of_lt (IsS49.lt (show IsS49 w0 _ g s0_0 s0_1 s0_2 s0_3 from by repeat (first | (with_reducible first | exact HI0.out | apply IsS49.alloc | apply IsS49.drewN | apply IsS49.drew | apply IsS49.set_0 | apply IsS49.set_1 | apply IsS49.set_2 | apply IsS49.set_3 | refine IsS49.far ?_ NB0_196.out _ | apply IsS49.far (hne := NB0_196.out)) | exact HI0.out))) : g ≠ gb197)); have n10_ := Aside0.mk ((by rw [hg]; exact Nat.ne_of_gt (IsS49.lt (show IsS49 w0 _ g s0_0 s0_1 s0_2 s0_3 from by repeat (first | (with_reducible first | exact HI0.out | apply IsS49.alloc | apply IsS49.drewN | apply IsS49.drew | apply IsS49.set_0 | apply IsS49.set_1 | apply IsS49.set_2 | apply IsS49.set_3 | refine IsS49.far ?_ NB0_196.out _ | apply IsS49.far (hne := NB0_196.out)) | exact HI0.out))) : gb197 ≠ g)); clear HI0; clear BK196; clear HK; clear HB; have HI0 := n0_; have BK196 := n1_; have HK := n2_; have HB := n3_; have BK197 := n4_; have GW197 := n5_; have GE197 := n6_; have NB196_197 := n7_; have NB197_196 := n8_; have NB0_197 := n9_; have NB197_0 := n10_; clear n0_ n1_ n2_ n3_ n4_ n5_ n6_ n7_ n8_ n9_ n10_; clear hb hbox hg; have hnb34 := NB196_197.out; have hnc34 := NB197_196.out; have hnb35 := NB196_0.out; have hnc35 := NB0_196.out; have hcz36_0 : w33.cell? ⟨gb196, 0, none⟩ = some (.int .i64 a1_0) := (blk_cell BK196.out 0).trans rfl; have hcz36_1 : w33.cell? ⟨gb196, 1, none⟩ = some (.int .i64 a1_1) := (blk_cell BK196.out 1).trans rfl; have hcz36_2 : w33.cell? ⟨gb196, 2, none⟩ = some (.int .i64 a1_2) := (blk_cell BK196.out 2).trans rfl; have hcz36_3 : w33.cell? ⟨gb196, 3, none⟩ = some (.string a1_3) := (blk_cell BK196.out 3).trans rfl; have hfz36_0 := blk_frozen BK196.out 0; have hfz36_1 := blk_frozen BK196.out 1; have hfz36_2 := blk_frozen BK196.out 2; have hfz36_3 := blk_frozen BK196.out 3) | ((with_reducible refine gate_callee (f := 43) rfl ?_); refine goesL_ (some 13) rfl rfl Try.func43 (by kernel_rfl) rfl #[.pointer (some ⟨g, 0, none⟩), .agg #[.int .i64 a1_0, .int .i64 a1_1, .int .i64 a1_2, .string a1_3]] rfl (by (try simp only [List.map_toArray, List.map_cons, List.map_nil]); first | done | rfl | (simp only [List.length_drop, List.length_take]; rfl)) ?_; (with_reducible refine (bywashref1_Blocks_take.calls k g s0_0 s0_1 s0_2 s0_3 a1_0 a1_1 a1_2 a1_3 t198 t199 t200 t201 t202 t203 w0 _ ?side1 ?side2 A3.out).mono ?_); (case side1 => repeat (first | (with_reducible first | exact HI0.out | apply IsS49.alloc | apply IsS49.drewN | apply IsS49.drew | apply IsS49.set_0 | apply IsS49.set_1 | apply IsS49.set_2 | apply IsS49.set_3 | refine IsS49.far ?_ NB0_196.out _ | apply IsS49.far (hne := NB0_196.out) | refine IsS49.far ?_ NB0_197.out _ | apply IsS49.far (hne := NB0_197.out)) | exact HI0.out)); (case side2 => repeat (first | (with_reducible first | exact HB.out | apply below_alloc | apply pw_below_drewN | apply below_drew1 | refine below_set ?_ (IsS49.ge HI0.out) | refine below_set ?_ GE196.out | refine below_set ?_ GE197.out) | exact HB.out)); rintro e w37 ⟨rfl, hi, hb, hk⟩; refine ⟨_, rfl, ?_⟩; have n0_ := Aside0.mk (KeepBut.blk hk (g' := gb196) (o := .cells #[.int .i64 a1_0, .int .i64 a1_1, .int .i64 a1_2, .string a1_3] 39 (0, 0)) (by (with_reducible repeat (first | refine blk_drewN ?_ _ | refine blk_drew ?_ | refine blk_alloc ?_ _)); exact BK196.out) NB196_0.out (by simp)); have n1_ := Aside0.mk (KeepBut.blk hk (g' := gb197) (o := .cells #[.int .i64 0, .string (⟨#[]⟩ : ByteArray), .bool false] 50 (0, 0)) (by (with_reducible repeat (first | refine blk_drewN ?_ _ | refine blk_drew ?_ | refine blk_alloc ?_ _)); exact BK197.out) NB197_0.out (by simp)); have n2_ := Aside0.mk (KeepBut.trans (by repeat (first | (with_reducible first | exact HK.out | apply KeepBut.set_ | apply keep_drewN | apply keep_drew | apply keep_alloc | refine keep_far ?_ GW196.out _ | refine keep_far ?_ GW197.out _) | exact HK.out)) hk (.inl rfl)); have n3_ := Aside0.mk (hb); have n4_ := Aside0.mk (hi); clear BK196; clear BK197; clear HK; clear HB; clear HI0; have BK196 := n0_; have BK197 := n1_; have HK := n2_; have HB := n3_; have HI0 := n4_; clear n0_ n1_ n2_ n3_ n4_; (try clear hb); (try clear hb2); (try clear hk); (try clear hi); obtain ⟨HGz38, hgz38⟩ := HI0.out; have hcz38_0 := cellS49_0 HGz38; have hcz38_1 := cellS49_1 HGz38; have hcz38_2 := cellS49_2 HGz38; have hcz38_3 := cellS49_3 HGz38; have hfz38_0 := blk_frozen HGz38 0; have hfz38_1 := blk_frozen HGz38 1; have hfz38_2 := blk_frozen HGz38 2; have hfz38_3 := blk_frozen HGz38 3; clear HGz38 hgz38; have hnb39 := NB197_0.out; have hnc39 := NB0_197.out; have hcz40_0 : w37.cell? ⟨gb197, 0, none⟩ = some (.int .i64 0) := (blk_cell BK197.out 0).trans rfl; have hcz40_1 : w37.cell? ⟨gb197, 1, none⟩ = some (.string (⟨#[]⟩ : ByteArray)) := (blk_cell BK197.out 1).trans rfl; have hcz40_2 : w37.cell? ⟨gb197, 2, none⟩ = some (.bool false) := (blk_cell BK197.out 2).trans rfl; have hfz40_0 := blk_frozen BK197.out 0; have hfz40_1 := blk_frozen BK197.out 1; have hfz40_2 := blk_frozen BK197.out 2))
  refine bodyPost_ret (results_ctt rfl _ _ gb197 50 #[.int .i64 0, .string (⟨#[]⟩ : ByteArray), .bool false] (0, 0) _ rfl (by (with_reducible repeat (first | refine blk_drewN ?_ _ | refine blk_drew ?_ | refine blk_alloc ?_ _)); refine blk_put (cs := #[.int .i64 0, .string (⟨#[]⟩ : ByteArray), .bool false]) ?_ 2 _ rfl; (with_reducible repeat (first | refine blk_drewN ?_ _ | refine blk_drew ?_ | refine blk_alloc ?_ _)); refine blk_put (cs := #[.int .i64 0, .string (⟨#[]⟩ : ByteArray), .bool false]) ?_ 1 _ rfl; (with_reducible repeat (first | refine blk_drewN ?_ _ | refine blk_drew ?_ | refine blk_alloc ?_ _)); refine blk_put (cs := #[.int .i64 0, .string (⟨#[]⟩ : ByteArray), .bool false]) ?_ 0 _ rfl; (with_reducible repeat (first | refine blk_drewN ?_ _ | refine blk_drew ?_ | refine blk_alloc ?_ _)); refine blk_far ?_ NB197_0.out _; (with_reducible repeat (first | refine blk_drewN ?_ _ | refine blk_drew ?_ | refine blk_alloc ?_ _)); refine blk_far ?_ NB197_0.out _; (with_reducible repeat (first | refine blk_drewN ?_ _ | refine blk_drew ?_ | refine blk_alloc ?_ _)); exact BK197.out) Try.underlying50 rfl (by kernel_rfl)) rfl ?_
  exact ⟨by first | rfl | (simp [errW_none, errW_some] <;> rfl) | (simp [*, errW_none, errW_some] <;> rfl), by repeat (first | (with_reducible first | exact HI0.out | apply IsS49.alloc | apply IsS49.drewN | apply IsS49.drew | apply IsS49.set_0 | apply IsS49.set_1 | apply IsS49.set_2 | apply IsS49.set_3 | refine IsS49.far ?_ NB0_196.out _ | apply IsS49.far (hne := NB0_196.out) | refine IsS49.far ?_ NB0_197.out _ | apply IsS49.far (hne := NB0_197.out)) | exact HI0.out), by repeat (first | (with_reducible first | exact HB.out | apply below_alloc | apply pw_below_drewN | apply below_drew1 | refine below_set ?_ (IsS49.ge HI0.out) | refine below_set ?_ GE196.out | refine below_set ?_ GE197.out) | exact HB.out), by repeat (first | (with_reducible first | exact HK.out | apply KeepBut.set_ | apply keep_drewN | apply keep_drew | apply keep_alloc | refine keep_far ?_ GW196.out _ | refine keep_far ?_ GW197.out _) | exact HK.out)⟩

end Go.Proofs.Ytdonanibfifodaa.PBlockPlays
