-- Written by a program of this session (the kit's printer, turned): the functions that the law reaches.
import Derived.Test.YtdonanibfifodaaPBlockTellsx0
import Derived.Test.YtdonanibfifodaaPBlockTellsx4
import Derived.Test.YtdonanibfifodaaPBlockTellsx5
namespace Go.Proofs.Ytdonanibfifodaa.PBlockTells
open Go.RowKit Go.Proofs.YtdonanibfifodaaW.PrintWords Go.Proofs.YtdonanibfifodaaW.PrintLast Go.Proofs.YtdonanibfifodaaW.PrintMore
attribute [local go_sem] max2_int min2_int max_two min_two max_three min_three max_four min_four   -- for this text's walks alone
set_option linter.unusedVariables false
set_option linter.unusedSimpArgs false

/-! ### block_Blocks_take: function 22 -/
mutual
def block_Blocks_take.j0 : Nat → ByteArray → Bool → Int → Int → ByteArray → Bool → Int → Int → Int → ByteArray → Int → ByteArray → Bool → Option (Int × ByteArray × Bool × Bool × Int × Int × Int × ByteArray × Bool)
 | 0, _, _, _, _, _, _, _, _, _, _, _, _, _ => none
 | k + 1, x10, x32, x1000, x1001, x1002, x1003, x125000, x125001, x125002, x125003, x127000, x127001, x127002 => if x32 = true then (if 0 + x10.size ≤ 9223372036854775807 then (if (((⟨#[]⟩ : ByteArray) ++ x10).size : Int) > x1000 then (some (0, (⟨#[]⟩ : ByteArray), false, false, 5, x1000, x1001, x1002, x1003)) else (some (x125002, (⟨#[]⟩ : ByteArray) ++ x10, ((Go.bits .and .i64 x125001 1) != 0), ((Go.bits .and .i64 x125001 4) != 0), 0, x1000, x1001, x1002, x1003))) else (none)) else (if x127000 = 0 then (block_Blocks_take.j1 k x10 (x125000 != 9) x1000 x1001 x1002 x1003 x125000 x125001 x125002 x125003 x127000 x127001 x127002) else (block_Blocks_take.j1 k x10 false x1000 x1001 x1002 x1003 x125000 x125001 x125002 x125003 x127000 x127001 x127002))
def block_Blocks_take.j1 : Nat → ByteArray → Bool → Int → Int → ByteArray → Bool → Int → Int → Int → ByteArray → Int → ByteArray → Bool → Option (Int × ByteArray × Bool × Bool × Int × Int × Int × ByteArray × Bool)
 | 0, _, _, _, _, _, _, _, _, _, _, _, _, _ => none
 | k + 1, x10, x48, x1000, x1001, x1002, x1003, x125000, x125001, x125002, x125003, x127000, x127001, x127002 => if x48 = true then (some (0, (⟨#[]⟩ : ByteArray), false, false, 0, x1000, x1001, x1002, x1003)) else (if x127000 = 0 then (block_Blocks_take.j2 k x10 true x1000 x1001 x1002 x1003 x125000 x125001 x125002 x125003 x127000 x127001 x127002) else (if x125000 = 9 then (block_Blocks_take.j2 k x10 (x125002 != x127000) x1000 x1001 x1002 x1003 x125000 x125001 x125002 x125003 x127000 x127001 x127002) else (block_Blocks_take.j2 k x10 true x1000 x1001 x1002 x1003 x125000 x125001 x125002 x125003 x127000 x127001 x127002)))
def block_Blocks_take.j2 : Nat → ByteArray → Bool → Int → Int → ByteArray → Bool → Int → Int → Int → ByteArray → Int → ByteArray → Bool → Option (Int × ByteArray × Bool × Bool × Int × Int × Int × ByteArray × Bool)
 | 0, _, _, _, _, _, _, _, _, _, _, _, _, _ => none
 | k + 1, x10, x58, x1000, x1001, x1002, x1003, x125000, x125001, x125002, x125003, x127000, x127001, x127002 => if x58 = true then (some (0, (⟨#[]⟩ : ByteArray), false, false, 11, x1000, x1001, x1002, x1003)) else (if x127001.size + x10.size ≤ 9223372036854775807 then (if ((x127001 ++ x10).size : Int) > x1000 then (some (0, (⟨#[]⟩ : ByteArray), false, false, 5, x1000, x1001, x1002, x1003)) else (some (x127000, x127001 ++ x10, x127002, ((Go.bits .and .i64 x125001 4) != 0), 0, x1000, x1001, x1002, x1003))) else (none))
end
def block_Blocks_take.f (k : Nat) (s0_0 : Int) (s0_1 : Int) (s0_2 : ByteArray) (s0_3 : Bool) (a1_0 : Int) (a1_1 : Int) (a1_2 : Int) (a1_3 : ByteArray) : Option (Int × ByteArray × Bool × Bool × Int × Int × Int × ByteArray × Bool) := (rule_Check.f k a1_0 a1_1 a1_2 a1_3).bind fun bt127 => ((frame_Strip.f k a1_0 a1_1 a1_2 a1_3).bind fun bt129 => (if bt127.2 = 0 then (if s0_1 = 0 then (block_Blocks_take.j0 k bt129.1 (a1_0 == 1) s0_0 s0_1 s0_2 s0_3 a1_0 a1_1 a1_2 a1_3 s0_1 s0_2 s0_3) else (block_Blocks_take.j0 k bt129.1 false s0_0 s0_1 s0_2 s0_3 a1_0 a1_1 a1_2 a1_3 s0_1 s0_2 s0_3)) else (some (0, (⟨#[]⟩ : ByteArray), false, false, 1, s0_0, s0_1, s0_2, s0_3))))
theorem block_Blocks_take.mono_l : ∀ k, (∀ y0 y1 y2 y3 y4 y5 y6 y7 y8 y9 y10 y11 y12, LeO (block_Blocks_take.j0 k y0 y1 y2 y3 y4 y5 y6 y7 y8 y9 y10 y11 y12) (block_Blocks_take.j0 (k + 1) y0 y1 y2 y3 y4 y5 y6 y7 y8 y9 y10 y11 y12)) ∧ (∀ y0 y1 y2 y3 y4 y5 y6 y7 y8 y9 y10 y11 y12, LeO (block_Blocks_take.j1 k y0 y1 y2 y3 y4 y5 y6 y7 y8 y9 y10 y11 y12) (block_Blocks_take.j1 (k + 1) y0 y1 y2 y3 y4 y5 y6 y7 y8 y9 y10 y11 y12)) ∧ (∀ y0 y1 y2 y3 y4 y5 y6 y7 y8 y9 y10 y11 y12, LeO (block_Blocks_take.j2 k y0 y1 y2 y3 y4 y5 y6 y7 y8 y9 y10 y11 y12) (block_Blocks_take.j2 (k + 1) y0 y1 y2 y3 y4 y5 y6 y7 y8 y9 y10 y11 y12))
 | 0 => ⟨fun _ _ _ _ _ _ _ _ _ _ _ _ _ r h => by simp [block_Blocks_take.j0] at h, fun _ _ _ _ _ _ _ _ _ _ _ _ _ r h => by simp [block_Blocks_take.j1] at h, fun _ _ _ _ _ _ _ _ _ _ _ _ _ r h => by simp [block_Blocks_take.j2] at h⟩
 | k + 1 => by
  obtain ⟨ih0, ih1, ih2⟩ := block_Blocks_take.mono_l k
  refine ⟨?_, ?_, ?_⟩
  ·intro y0 y1 y2 y3 y4 y5 y6 y7 y8 y9 y10 y11 y12
   unfold block_Blocks_take.j0
   repeat' first
   | (with_reducible exact ih0 _ _ _ _ _ _ _ _ _ _ _ _ _)
   | (with_reducible exact ih1 _ _ _ _ _ _ _ _ _ _ _ _ _)
   | (with_reducible exact ih2 _ _ _ _ _ _ _ _ _ _ _ _ _)
   | (with_reducible exact frame_Strip.mono _ _ _ _ _)
   | (with_reducible exact rule_Check.mono _ _ _ _ _)
   | (with_reducible exact LeO.refl _)
   | (with_reducible exact LeO.none _)
   | (with_reducible refine LeO.ite ?_ ?_)
   | (with_reducible refine LeO.bind ?_ (fun _ => ?_))
   | exact ih0 _ _ _ _ _ _ _ _ _ _ _ _ _
   | exact ih1 _ _ _ _ _ _ _ _ _ _ _ _ _
   | exact ih2 _ _ _ _ _ _ _ _ _ _ _ _ _
   | exact frame_Strip.mono _ _ _ _ _
   | exact rule_Check.mono _ _ _ _ _
   | exact LeO.none _
   | refine LeO.ite ?_ ?_
   | refine LeO.bind ?_ (fun _ => ?_)
  ·intro y0 y1 y2 y3 y4 y5 y6 y7 y8 y9 y10 y11 y12
   unfold block_Blocks_take.j1
   repeat' first
   | (with_reducible exact ih0 _ _ _ _ _ _ _ _ _ _ _ _ _)
   | (with_reducible exact ih1 _ _ _ _ _ _ _ _ _ _ _ _ _)
   | (with_reducible exact ih2 _ _ _ _ _ _ _ _ _ _ _ _ _)
   | (with_reducible exact frame_Strip.mono _ _ _ _ _)
   | (with_reducible exact rule_Check.mono _ _ _ _ _)
   | (with_reducible exact LeO.refl _)
   | (with_reducible exact LeO.none _)
   | (with_reducible refine LeO.ite ?_ ?_)
   | (with_reducible refine LeO.bind ?_ (fun _ => ?_))
   | exact ih0 _ _ _ _ _ _ _ _ _ _ _ _ _
   | exact ih1 _ _ _ _ _ _ _ _ _ _ _ _ _
   | exact ih2 _ _ _ _ _ _ _ _ _ _ _ _ _
   | exact frame_Strip.mono _ _ _ _ _
   | exact rule_Check.mono _ _ _ _ _
   | exact LeO.none _
   | refine LeO.ite ?_ ?_
   | refine LeO.bind ?_ (fun _ => ?_)
  ·intro y0 y1 y2 y3 y4 y5 y6 y7 y8 y9 y10 y11 y12
   unfold block_Blocks_take.j2
   repeat' first
   | (with_reducible exact ih0 _ _ _ _ _ _ _ _ _ _ _ _ _)
   | (with_reducible exact ih1 _ _ _ _ _ _ _ _ _ _ _ _ _)
   | (with_reducible exact ih2 _ _ _ _ _ _ _ _ _ _ _ _ _)
   | (with_reducible exact frame_Strip.mono _ _ _ _ _)
   | (with_reducible exact rule_Check.mono _ _ _ _ _)
   | (with_reducible exact LeO.refl _)
   | (with_reducible exact LeO.none _)
   | (with_reducible refine LeO.ite ?_ ?_)
   | (with_reducible refine LeO.bind ?_ (fun _ => ?_))
   | exact ih0 _ _ _ _ _ _ _ _ _ _ _ _ _
   | exact ih1 _ _ _ _ _ _ _ _ _ _ _ _ _
   | exact ih2 _ _ _ _ _ _ _ _ _ _ _ _ _
   | exact frame_Strip.mono _ _ _ _ _
   | exact rule_Check.mono _ _ _ _ _
   | exact LeO.none _
   | refine LeO.ite ?_ ?_
   | refine LeO.bind ?_ (fun _ => ?_)
theorem block_Blocks_take.mono : ∀ a0 a1 a2 a3 a4 a5 a6 a7 k, LeO (block_Blocks_take.f k a0 a1 a2 a3 a4 a5 a6 a7) (block_Blocks_take.f (k + 1) a0 a1 a2 a3 a4 a5 a6 a7) := by
 intro a0 a1 a2 a3 a4 a5 a6 a7 k
 obtain ⟨ih0, ih1, ih2⟩ := block_Blocks_take.mono_l k
 unfold block_Blocks_take.f
 repeat' first
   | (with_reducible exact ih0 _ _ _ _ _ _ _ _ _ _ _ _ _)
   | (with_reducible exact ih1 _ _ _ _ _ _ _ _ _ _ _ _ _)
   | (with_reducible exact ih2 _ _ _ _ _ _ _ _ _ _ _ _ _)
   | (with_reducible exact frame_Strip.mono _ _ _ _ _)
   | (with_reducible exact rule_Check.mono _ _ _ _ _)
   | (with_reducible exact LeO.refl _)
   | (with_reducible exact LeO.none _)
   | (with_reducible refine LeO.ite ?_ ?_)
   | (with_reducible refine LeO.bind ?_ (fun _ => ?_))
   | exact ih0 _ _ _ _ _ _ _ _ _ _ _ _ _
   | exact ih1 _ _ _ _ _ _ _ _ _ _ _ _ _
   | exact ih2 _ _ _ _ _ _ _ _ _ _ _ _ _
   | exact frame_Strip.mono _ _ _ _ _
   | exact rule_Check.mono _ _ _ _ _
   | exact LeO.none _
   | refine LeO.ite ?_ ?_
   | refine LeO.bind ?_ (fun _ => ?_)
def block_Blocks_take.T13 : Bool × List (List Nat × List Nat) := (true, [([], []), ([0], [0]), ([1], [1]), ([], []), ([3], [3]), ([4], [4]), ([5], [5]), ([2, 6], [2, 6])])
def block_Blocks_take.B13 : List Nat := [0, 1, 3, 0, 8, 24, 56, 127]
theorem block_Blocks_take.tab13 : rtab .any (opsOf Try.f22 13) = block_Blocks_take.T13 := by kernel_rfl
theorem block_Blocks_take.bits13 : waitsOk block_Blocks_take.T13.2 block_Blocks_take.B13 = true := by kernel_rfl
def block_Blocks_take.T15 : Bool × List (List Nat × List Nat) := (true, [([], []), ([], []), ([1], [1]), ([2], [2]), ([3], [3]), ([0, 0], [0]), ([4, 5, 0, 1, 2, 3, 4, 5], [4]), ([6, 0, 1, 2, 3, 4, 5, 6], [])])
def block_Blocks_take.B15 : List Nat := [0, 0, 2, 6, 14, 1, 63, 127]
theorem block_Blocks_take.tab15 : rtab .any (opsOf Try.f22 15) = block_Blocks_take.T15 := by kernel_rfl
theorem block_Blocks_take.bits15 : waitsOk block_Blocks_take.T15.2 block_Blocks_take.B15 = true := by kernel_rfl
set_option maxHeartbeats 8000000 in
set_option maxRecDepth 100000 in
theorem block_Blocks_take.calls (k : Nat) (g : Nat) (s0_0 : Int) (s0_1 : Int) (s0_2 : ByteArray) (s0_3 : Bool) (a1_0 : Int) (a1_1 : Int) (a1_2 : Int) (a1_3 : ByteArray) (r1 : Int) (r2 : ByteArray) (r3 : Bool) (r4 : Bool) (r5 : Int) (r6 : Int) (r7 : Int) (r8 : ByteArray) (r9 : Bool) (w0 w : World) (hI : IsS63 w0 w g s0_0 s0_1 s0_2 s0_3) (hB : Below w0.heap.size w0 w) (h : block_Blocks_take.f k s0_0 s0_1 s0_2 s0_3 a1_0 a1_1 a1_2 a1_3 = some (r1, r2, r3, r4, r5, r6, r7, r8, r9)) :
  Calls Try.prog 22 #[.pointer (some ⟨g, 0, none⟩), .agg #[.int .i64 a1_0, .int .i64 a1_1, .int .i64 a1_2, .string a1_3]] w fun e w' => e = .returned (.tuple #[.agg #[.int .i64 r1, .string r2, .bool r3], .bool r4, .int .i64 r5]) ∧ IsS63 w0 w' g r6 r7 r8 r9 ∧ Below w0.heap.size w0 w' ∧ KeepBut w w' g none := by
 have hu39 := Try.underlying39
 have hu41 := Try.underlying41
 have HI0 := Aside0.mk hI
 have HK := Aside0.mk (KeepBut.refl w g none)
 have HL := Aside0.mk hB.size
 clear hI
 have HW0 := Aside0.mk hB.size
 have HB := Aside0.mk hB
 clear hB
 have H : ((rule_Check.f k a1_0 a1_1 a1_2 a1_3).bind fun bt127 => ((frame_Strip.f k a1_0 a1_1 a1_2 a1_3).bind fun bt129 => (if bt127.2 = 0 then (if s0_1 = 0 then (block_Blocks_take.j0 k bt129.1 (a1_0 == 1) s0_0 s0_1 s0_2 s0_3 a1_0 a1_1 a1_2 a1_3 s0_1 s0_2 s0_3) else (block_Blocks_take.j0 k bt129.1 false s0_0 s0_1 s0_2 s0_3 a1_0 a1_1 a1_2 a1_3 s0_1 s0_2 s0_3)) else (some (0, (⟨#[]⟩ : ByteArray), false, false, 1, s0_0, s0_1, s0_2, s0_3))))) = some (r1, r2, r3, r4, r5, r6, r7, r8, r9) := h
 clear h
 replace H := Option.bind_eq_some_iff.mp H
 obtain ⟨⟨t127, t128⟩, A30, H⟩ := H
 replace H : ((frame_Strip.f k a1_0 a1_1 a1_2 a1_3).bind fun bt129 => (if t128 = 0 then (if s0_1 = 0 then (block_Blocks_take.j0 k bt129.1 (a1_0 == 1) s0_0 s0_1 s0_2 s0_3 a1_0 a1_1 a1_2 a1_3 s0_1 s0_2 s0_3) else (block_Blocks_take.j0 k bt129.1 false s0_0 s0_1 s0_2 s0_3 a1_0 a1_1 a1_2 a1_3 s0_1 s0_2 s0_3)) else (some (0, (⟨#[]⟩ : ByteArray), false, false, 1, s0_0, s0_1, s0_2, s0_3)))) = some (r1, r2, r3, r4, r5, r6, r7, r8, r9) := H
 have A3 := Aside0.mk A30
 clear A30
 replace H := Option.bind_eq_some_iff.mp H
 obtain ⟨⟨t129, t130, t131⟩, A40, H⟩ := H
 replace H : (if t128 = 0 then (if s0_1 = 0 then (block_Blocks_take.j0 k t129 (a1_0 == 1) s0_0 s0_1 s0_2 s0_3 a1_0 a1_1 a1_2 a1_3 s0_1 s0_2 s0_3) else (block_Blocks_take.j0 k t129 false s0_0 s0_1 s0_2 s0_3 a1_0 a1_1 a1_2 a1_3 s0_1 s0_2 s0_3)) else (some (0, (⟨#[]⟩ : ByteArray), false, false, 1, s0_0, s0_1, s0_2, s0_3))) = some (r1, r2, r3, r4, r5, r6, r7, r8, r9) := H
 have A4 := Aside0.mk A40
 clear A40
 by_cases c5 : t128 = 0
 ·rw [if_pos c5] at H
  have c5b0 : (t128 == 0) = true := beq_iff_eq.mpr c5
  have c5b1 : (t128 != 0) = false := bne_eq_false_iff_eq.mpr c5
  clear c5
  have HC6 := Aside0.mk H
  clear H
  go_enter Try.func22, Try.ntmps22
  go_upto_region 6 with (first | ((with_reducible refine gate_dst (N := 3) rfl ?_); refine box_event ?hg (N := 3) ?hd (cs := #[.int .i64 a1_0, .int .i64 a1_1, .int .i64 a1_2, .string a1_3]) (t := 39) ?hr ?_; (case hd => rfl); (case hg => rfl); (case hr => first | (go_simp; done) | (go_simp; rfl)); intro gb124 hg w7 hbox hb; have n0_ := Aside0.mk (IsS63.below (by repeat (first | (with_reducible first | exact HI0.out | apply IsS63.alloc | apply IsS63.drewN | apply IsS63.drew | apply IsS63.set_0 | apply IsS63.set_1 | apply IsS63.set_2 | apply IsS63.set_3) | exact HI0.out)) hb); have n1_ := Aside0.mk (KeepBut.trans (by repeat (first | (with_reducible first | exact HK.out | apply KeepBut.set_ | apply keep_drewN | apply keep_drew | apply keep_alloc) | exact HK.out)) (KeepBut.of_below hb g none) (.inl rfl)); have n2_ := Aside0.mk (below_step (by repeat (first | (with_reducible first | exact HB.out | apply below_alloc | apply pw_below_drewN | apply below_drew1 | refine below_set ?_ (IsS63.ge HI0.out)) | exact HB.out)) hb); have n3_ := Aside0.mk (hbox); have n4_ := Aside0.mk ((by rw [hg]; exact (keep_size (w := w) (g := g) (row := none) (by repeat (first | (with_reducible first | exact HK.out | apply KeepBut.set_ | apply keep_drewN | apply keep_drew | apply keep_alloc) | exact HK.out))) : w.heap.size ≤ gb124)); have n5_ := Aside0.mk ((Nat.le_trans HW0.out (by rw [hg]; exact (keep_size (w := w) (g := g) (row := none) (by repeat (first | (with_reducible first | exact HK.out | apply KeepBut.set_ | apply keep_drewN | apply keep_drew | apply keep_alloc) | exact HK.out))) : w.heap.size ≤ gb124) : w0.heap.size ≤ gb124)); have n6_ := Aside0.mk ((by rw [hg]; exact Nat.ne_of_lt (IsS63.lt (show IsS63 w0 _ g s0_0 s0_1 s0_2 s0_3 from by repeat (first | (with_reducible first | exact HI0.out | apply IsS63.alloc | apply IsS63.drewN | apply IsS63.drew | apply IsS63.set_0 | apply IsS63.set_1 | apply IsS63.set_2 | apply IsS63.set_3) | exact HI0.out))) : g ≠ gb124)); have n7_ := Aside0.mk ((by rw [hg]; exact Nat.ne_of_gt (IsS63.lt (show IsS63 w0 _ g s0_0 s0_1 s0_2 s0_3 from by repeat (first | (with_reducible first | exact HI0.out | apply IsS63.alloc | apply IsS63.drewN | apply IsS63.drew | apply IsS63.set_0 | apply IsS63.set_1 | apply IsS63.set_2 | apply IsS63.set_3) | exact HI0.out))) : gb124 ≠ g)); clear HI0; clear HK; clear HB; have HI0 := n0_; have HK := n1_; have HB := n2_; have BK124 := n3_; have GW124 := n4_; have GE124 := n5_; have NB0_124 := n6_; have NB124_0 := n7_; clear n0_ n1_ n2_ n3_ n4_ n5_ n6_ n7_; clear hb hbox hg) | ((with_reducible refine gate_dst (N := 4) rfl ?_); refine box_event ?hg (N := 4) ?hd (cs := #[.int .i64 0, .string (⟨#[]⟩ : ByteArray), .bool false]) (t := 41) ?hr ?_; (case hd => rfl); (case hg => rfl); (case hr => first | (go_simp; done) | (go_simp; rfl)); intro gb125 hg w8 hbox hb; have n0_ := Aside0.mk (IsS63.below (by repeat (first | (with_reducible first | exact HI0.out | apply IsS63.alloc | apply IsS63.drewN | apply IsS63.drew | apply IsS63.set_0 | apply IsS63.set_1 | apply IsS63.set_2 | apply IsS63.set_3 | refine IsS63.far ?_ NB0_124.out _ | apply IsS63.far (hne := NB0_124.out)) | exact HI0.out)) hb); have n1_ := Aside0.mk (blk_below (g := gb124) (o := .cells #[.int .i64 a1_0, .int .i64 a1_1, .int .i64 a1_2, .string a1_3] 39 (0, 0)) (by (with_reducible repeat (first | refine blk_drewN ?_ _ | refine blk_drew ?_ | refine blk_alloc ?_ _)); exact BK124.out) hb); have n2_ := Aside0.mk (KeepBut.trans (by repeat (first | (with_reducible first | exact HK.out | apply KeepBut.set_ | apply keep_drewN | apply keep_drew | apply keep_alloc | refine keep_far ?_ GW124.out _) | exact HK.out)) (KeepBut.of_below hb g none) (.inl rfl)); have n3_ := Aside0.mk (below_step (by repeat (first | (with_reducible first | exact HB.out | apply below_alloc | apply pw_below_drewN | apply below_drew1 | refine below_set ?_ (IsS63.ge HI0.out) | refine below_set ?_ GE124.out) | exact HB.out)) hb); have n4_ := Aside0.mk (hbox); have n5_ := Aside0.mk ((by rw [hg]; exact (keep_size (w := w) (g := g) (row := none) (by repeat (first | (with_reducible first | exact HK.out | apply KeepBut.set_ | apply keep_drewN | apply keep_drew | apply keep_alloc | refine keep_far ?_ GW124.out _) | exact HK.out))) : w.heap.size ≤ gb125)); have n6_ := Aside0.mk ((Nat.le_trans HW0.out (by rw [hg]; exact (keep_size (w := w) (g := g) (row := none) (by repeat (first | (with_reducible first | exact HK.out | apply KeepBut.set_ | apply keep_drewN | apply keep_drew | apply keep_alloc | refine keep_far ?_ GW124.out _) | exact HK.out))) : w.heap.size ≤ gb125) : w0.heap.size ≤ gb125)); have n7_ := Aside0.mk ((by rw [hg]; exact Nat.ne_of_lt (blk_lt (g := gb124) (o := .cells #[.int .i64 a1_0, .int .i64 a1_1, .int .i64 a1_2, .string a1_3] 39 (0, 0)) (by (with_reducible repeat (first | refine blk_drewN ?_ _ | refine blk_drew ?_ | refine blk_alloc ?_ _)); exact BK124.out)) : gb124 ≠ gb125)); have n8_ := Aside0.mk ((by rw [hg]; exact Nat.ne_of_gt (blk_lt (g := gb124) (o := .cells #[.int .i64 a1_0, .int .i64 a1_1, .int .i64 a1_2, .string a1_3] 39 (0, 0)) (by (with_reducible repeat (first | refine blk_drewN ?_ _ | refine blk_drew ?_ | refine blk_alloc ?_ _)); exact BK124.out)) : gb125 ≠ gb124)); have n9_ := Aside0.mk ((by rw [hg]; exact Nat.ne_of_lt (IsS63.lt (show IsS63 w0 _ g s0_0 s0_1 s0_2 s0_3 from by repeat (first | (with_reducible first | exact HI0.out | apply IsS63.alloc | apply IsS63.drewN | apply IsS63.drew | apply IsS63.set_0 | apply IsS63.set_1 | apply IsS63.set_2 | apply IsS63.set_3 | refine IsS63.far ?_ NB0_124.out _ | apply IsS63.far (hne := NB0_124.out)) | exact HI0.out))) : g ≠ gb125)); have n10_ := Aside0.mk ((by rw [hg]; exact Nat.ne_of_gt (IsS63.lt (show IsS63 w0 _ g s0_0 s0_1 s0_2 s0_3 from by repeat (first | (with_reducible first | exact HI0.out | apply IsS63.alloc | apply IsS63.drewN | apply IsS63.drew | apply IsS63.set_0 | apply IsS63.set_1 | apply IsS63.set_2 | apply IsS63.set_3 | refine IsS63.far ?_ NB0_124.out _ | apply IsS63.far (hne := NB0_124.out)) | exact HI0.out))) : gb125 ≠ g)); clear HI0; clear BK124; clear HK; clear HB; have HI0 := n0_; have BK124 := n1_; have HK := n2_; have HB := n3_; have BK125 := n4_; have GW125 := n5_; have GE125 := n6_; have NB124_125 := n7_; have NB125_124 := n8_; have NB0_125 := n9_; have NB125_0 := n10_; clear n0_ n1_ n2_ n3_ n4_ n5_ n6_ n7_ n8_ n9_ n10_; clear hb hbox hg; obtain ⟨HGz9, hgz9⟩ := HI0.out; have hcz9_0 := cellS63_0 HGz9; have hcz9_1 := cellS63_1 HGz9; have hcz9_2 := cellS63_2 HGz9; have hcz9_3 := cellS63_3 HGz9; have hfz9_0 := blk_frozen HGz9 0; have hfz9_1 := blk_frozen HGz9 1; have hfz9_2 := blk_frozen HGz9 2; have hfz9_3 := blk_frozen HGz9 3; clear HGz9 hgz9) | ((with_reducible refine gate_dst (N := 7) rfl ?_); refine box_event ?hg (N := 7) ?hd (cs := #[.int .i64 0, .string (⟨#[]⟩ : ByteArray), .bool false]) (t := 41) ?hr ?_; (case hd => rfl); (case hg => rfl); (case hr => first | (go_simp; done) | (go_simp; rfl)); intro gb126 hg w10 hbox hb; have n0_ := Aside0.mk (IsS63.below (by repeat (first | (with_reducible first | exact HI0.out | apply IsS63.alloc | apply IsS63.drewN | apply IsS63.drew | apply IsS63.set_0 | apply IsS63.set_1 | apply IsS63.set_2 | apply IsS63.set_3 | refine IsS63.far ?_ NB0_124.out _ | apply IsS63.far (hne := NB0_124.out) | refine IsS63.far ?_ NB0_125.out _ | apply IsS63.far (hne := NB0_125.out)) | exact HI0.out)) hb); have n1_ := Aside0.mk (blk_below (g := gb124) (o := .cells #[.int .i64 a1_0, .int .i64 a1_1, .int .i64 a1_2, .string a1_3] 39 (0, 0)) (by (with_reducible repeat (first | refine blk_drewN ?_ _ | refine blk_drew ?_ | refine blk_alloc ?_ _)); exact BK124.out) hb); have n2_ := Aside0.mk (blk_below (g := gb125) (o := .cells #[.int .i64 0, .string (⟨#[]⟩ : ByteArray), .bool false] 41 (0, 0)) (by (with_reducible repeat (first | refine blk_drewN ?_ _ | refine blk_drew ?_ | refine blk_alloc ?_ _)); exact BK125.out) hb); have n3_ := Aside0.mk (KeepBut.trans (by repeat (first | (with_reducible first | exact HK.out | apply KeepBut.set_ | apply keep_drewN | apply keep_drew | apply keep_alloc | refine keep_far ?_ GW124.out _ | refine keep_far ?_ GW125.out _) | exact HK.out)) (KeepBut.of_below hb g none) (.inl rfl)); have n4_ := Aside0.mk (below_step (by repeat (first | (with_reducible first | exact HB.out | apply below_alloc | apply pw_below_drewN | apply below_drew1 | refine below_set ?_ (IsS63.ge HI0.out) | refine below_set ?_ GE124.out | refine below_set ?_ GE125.out) | exact HB.out)) hb); have n5_ := Aside0.mk (hbox); have n6_ := Aside0.mk ((by rw [hg]; exact (keep_size (w := w) (g := g) (row := none) (by repeat (first | (with_reducible first | exact HK.out | apply KeepBut.set_ | apply keep_drewN | apply keep_drew | apply keep_alloc | refine keep_far ?_ GW124.out _ | refine keep_far ?_ GW125.out _) | exact HK.out))) : w.heap.size ≤ gb126)); have n7_ := Aside0.mk ((Nat.le_trans HW0.out (by rw [hg]; exact (keep_size (w := w) (g := g) (row := none) (by repeat (first | (with_reducible first | exact HK.out | apply KeepBut.set_ | apply keep_drewN | apply keep_drew | apply keep_alloc | refine keep_far ?_ GW124.out _ | refine keep_far ?_ GW125.out _) | exact HK.out))) : w.heap.size ≤ gb126) : w0.heap.size ≤ gb126)); have n8_ := Aside0.mk ((by rw [hg]; exact Nat.ne_of_lt (blk_lt (g := gb124) (o := .cells #[.int .i64 a1_0, .int .i64 a1_1, .int .i64 a1_2, .string a1_3] 39 (0, 0)) (by (with_reducible repeat (first | refine blk_drewN ?_ _ | refine blk_drew ?_ | refine blk_alloc ?_ _)); exact BK124.out)) : gb124 ≠ gb126)); have n9_ := Aside0.mk ((by rw [hg]; exact Nat.ne_of_gt (blk_lt (g := gb124) (o := .cells #[.int .i64 a1_0, .int .i64 a1_1, .int .i64 a1_2, .string a1_3] 39 (0, 0)) (by (with_reducible repeat (first | refine blk_drewN ?_ _ | refine blk_drew ?_ | refine blk_alloc ?_ _)); exact BK124.out)) : gb126 ≠ gb124)); have n10_ := Aside0.mk ((by rw [hg]; exact Nat.ne_of_lt (blk_lt (g := gb125) (o := .cells #[.int .i64 0, .string (⟨#[]⟩ : ByteArray), .bool false] 41 (0, 0)) (by (with_reducible repeat (first | refine blk_drewN ?_ _ | refine blk_drew ?_ | refine blk_alloc ?_ _)); exact BK125.out)) : gb125 ≠ gb126)); have n11_ := Aside0.mk ((by rw [hg]; exact Nat.ne_of_gt (blk_lt (g := gb125) (o := .cells #[.int .i64 0, .string (⟨#[]⟩ : ByteArray), .bool false] 41 (0, 0)) (by (with_reducible repeat (first | refine blk_drewN ?_ _ | refine blk_drew ?_ | refine blk_alloc ?_ _)); exact BK125.out)) : gb126 ≠ gb125)); have n12_ := Aside0.mk ((by rw [hg]; exact Nat.ne_of_lt (IsS63.lt (show IsS63 w0 _ g s0_0 s0_1 s0_2 s0_3 from by repeat (first | (with_reducible first | exact HI0.out | apply IsS63.alloc | apply IsS63.drewN | apply IsS63.drew | apply IsS63.set_0 | apply IsS63.set_1 | apply IsS63.set_2 | apply IsS63.set_3 | refine IsS63.far ?_ NB0_124.out _ | apply IsS63.far (hne := NB0_124.out) | refine IsS63.far ?_ NB0_125.out _ | apply IsS63.far (hne := NB0_125.out)) | exact HI0.out))) : g ≠ gb126)); have n13_ := Aside0.mk ((by rw [hg]; exact Nat.ne_of_gt (IsS63.lt (show IsS63 w0 _ g s0_0 s0_1 s0_2 s0_3 from by repeat (first | (with_reducible first | exact HI0.out | apply IsS63.alloc | apply IsS63.drewN | apply IsS63.drew | apply IsS63.set_0 | apply IsS63.set_1 | apply IsS63.set_2 | apply IsS63.set_3 | refine IsS63.far ?_ NB0_124.out _ | apply IsS63.far (hne := NB0_124.out) | refine IsS63.far ?_ NB0_125.out _ | apply IsS63.far (hne := NB0_125.out)) | exact HI0.out))) : gb126 ≠ g)); clear HI0; clear BK124; clear BK125; clear HK; clear HB; have HI0 := n0_; have BK124 := n1_; have BK125 := n2_; have HK := n3_; have HB := n4_; have BK126 := n5_; have GW126 := n6_; have GE126 := n7_; have NB124_126 := n8_; have NB126_124 := n9_; have NB125_126 := n10_; have NB126_125 := n11_; have NB0_126 := n12_; have NB126_0 := n13_; clear n0_ n1_ n2_ n3_ n4_ n5_ n6_ n7_ n8_ n9_ n10_ n11_ n12_ n13_; clear hb hbox hg; have hnb11 := NB126_124.out; have hnc11 := NB124_126.out; have hnb12 := NB126_125.out; have hnc12 := NB125_126.out; have hnb13 := NB126_0.out; have hnc13 := NB0_126.out; have hcz14_0 : w10.cell? ⟨gb126, 0, none⟩ = some (.int .i64 0) := (blk_cell BK126.out 0).trans rfl; have hcz14_1 : w10.cell? ⟨gb126, 1, none⟩ = some (.string (⟨#[]⟩ : ByteArray)) := (blk_cell BK126.out 1).trans rfl; have hcz14_2 : w10.cell? ⟨gb126, 2, none⟩ = some (.bool false) := (blk_cell BK126.out 2).trans rfl; have hfz14_0 := blk_frozen BK126.out 0; have hfz14_1 := blk_frozen BK126.out 1; have hfz14_2 := blk_frozen BK126.out 2; have hnb15 := NB124_125.out; have hnc15 := NB125_124.out; have hnb16 := NB124_0.out; have hnc16 := NB0_124.out; have hcz17_0 : w10.cell? ⟨gb124, 0, none⟩ = some (.int .i64 a1_0) := (blk_cell BK124.out 0).trans rfl; have hcz17_1 : w10.cell? ⟨gb124, 1, none⟩ = some (.int .i64 a1_1) := (blk_cell BK124.out 1).trans rfl; have hcz17_2 : w10.cell? ⟨gb124, 2, none⟩ = some (.int .i64 a1_2) := (blk_cell BK124.out 2).trans rfl; have hcz17_3 : w10.cell? ⟨gb124, 3, none⟩ = some (.string a1_3) := (blk_cell BK124.out 3).trans rfl; have hfz17_0 := blk_frozen BK124.out 0; have hfz17_1 := blk_frozen BK124.out 1; have hfz17_2 := blk_frozen BK124.out 2; have hfz17_3 := blk_frozen BK124.out 3) | ((with_reducible refine gate_callee (f := 46) rfl ?_); refine goesL_ (some 19) rfl rfl Try.func46 (by kernel_rfl) rfl #[.agg #[.int .i64 a1_0, .int .i64 a1_1, .int .i64 a1_2, .string a1_3]] rfl (by (try simp only [List.map_toArray, List.map_cons, List.map_nil]); first | done | rfl | (simp only [List.length_drop, List.length_take]; rfl)) ?_; (with_reducible refine (rule_Check.calls k a1_0 a1_1 a1_2 a1_3 t127 t128 _ A3.out).mono ?_); rintro e w18 ⟨rfl, hb⟩; refine ⟨_, rfl, ?_⟩; have n0_ := Aside0.mk (IsS63.below (show IsS63 w0 (((w10.setCell ⟨gb126, 0, none⟩ (.int .i64 s0_1)).setCell ⟨gb126, 1, none⟩ (.string s0_2)).setCell ⟨gb126, 2, none⟩ (.bool s0_3)) g s0_0 s0_1 s0_2 s0_3 from by repeat (first | (with_reducible first | exact HI0.out | apply IsS63.alloc | apply IsS63.drewN | apply IsS63.drew | apply IsS63.set_0 | apply IsS63.set_1 | apply IsS63.set_2 | apply IsS63.set_3 | refine IsS63.far ?_ NB0_124.out _ | apply IsS63.far (hne := NB0_124.out) | refine IsS63.far ?_ NB0_125.out _ | apply IsS63.far (hne := NB0_125.out) | refine IsS63.far ?_ NB0_126.out _ | apply IsS63.far (hne := NB0_126.out)) | exact HI0.out)) hb); have n1_ := Aside0.mk (blk_below (g := gb124) (o := .cells #[.int .i64 a1_0, .int .i64 a1_1, .int .i64 a1_2, .string a1_3] 39 (0, 0)) (by (with_reducible repeat (first | refine blk_drewN ?_ _ | refine blk_drew ?_ | refine blk_alloc ?_ _)); refine blk_far ?_ NB124_126.out _; (with_reducible repeat (first | refine blk_drewN ?_ _ | refine blk_drew ?_ | refine blk_alloc ?_ _)); refine blk_far ?_ NB124_126.out _; (with_reducible repeat (first | refine blk_drewN ?_ _ | refine blk_drew ?_ | refine blk_alloc ?_ _)); refine blk_far ?_ NB124_126.out _; (with_reducible repeat (first | refine blk_drewN ?_ _ | refine blk_drew ?_ | refine blk_alloc ?_ _)); exact BK124.out) hb); have n2_ := Aside0.mk (blk_below (g := gb125) (o := .cells #[.int .i64 0, .string (⟨#[]⟩ : ByteArray), .bool false] 41 (0, 0)) (by (with_reducible repeat (first | refine blk_drewN ?_ _ | refine blk_drew ?_ | refine blk_alloc ?_ _)); refine blk_far ?_ NB125_126.out _; (with_reducible repeat (first | refine blk_drewN ?_ _ | refine blk_drew ?_ | refine blk_alloc ?_ _)); refine blk_far ?_ NB125_126.out _; (with_reducible repeat (first | refine blk_drewN ?_ _ | refine blk_drew ?_ | refine blk_alloc ?_ _)); refine blk_far ?_ NB125_126.out _; (with_reducible repeat (first | refine blk_drewN ?_ _ | refine blk_drew ?_ | refine blk_alloc ?_ _)); exact BK125.out) hb); have n3_ := Aside0.mk (blk_below (g := gb126) (o := .cells #[.int .i64 s0_1, .string s0_2, .bool s0_3] 41 (0, 0)) (by (with_reducible repeat (first | refine blk_drewN ?_ _ | refine blk_drew ?_ | refine blk_alloc ?_ _)); refine blk_put (cs := #[.int .i64 s0_1, .string s0_2, .bool false]) ?_ 2 _ rfl; (with_reducible repeat (first | refine blk_drewN ?_ _ | refine blk_drew ?_ | refine blk_alloc ?_ _)); refine blk_put (cs := #[.int .i64 s0_1, .string (⟨#[]⟩ : ByteArray), .bool false]) ?_ 1 _ rfl; (with_reducible repeat (first | refine blk_drewN ?_ _ | refine blk_drew ?_ | refine blk_alloc ?_ _)); refine blk_put (cs := #[.int .i64 0, .string (⟨#[]⟩ : ByteArray), .bool false]) ?_ 0 _ rfl; (with_reducible repeat (first | refine blk_drewN ?_ _ | refine blk_drew ?_ | refine blk_alloc ?_ _)); exact BK126.out) hb); have n4_ := Aside0.mk (KeepBut.trans (by repeat (first | (with_reducible first | exact HK.out | apply KeepBut.set_ | apply keep_drewN | apply keep_drew | apply keep_alloc | refine keep_far ?_ GW124.out _ | refine keep_far ?_ GW125.out _ | refine keep_far ?_ GW126.out _) | exact HK.out)) (KeepBut.of_below hb g none) (.inl rfl)); have n5_ := Aside0.mk (below_step (by repeat (first | (with_reducible first | exact HB.out | apply below_alloc | apply pw_below_drewN | apply below_drew1 | refine below_set ?_ (IsS63.ge HI0.out) | refine below_set ?_ GE124.out | refine below_set ?_ GE125.out | refine below_set ?_ GE126.out) | exact HB.out)) hb); clear HI0; clear BK124; clear BK125; clear BK126; clear HK; clear HB; have HI0 := n0_; have BK124 := n1_; have BK125 := n2_; have BK126 := n3_; have HK := n4_; have HB := n5_; clear n0_ n1_ n2_ n3_ n4_ n5_; (try clear hb); (try clear hb2); (try clear hk); (try clear hi); have hcz19_0 : w18.cell? ⟨gb124, 0, none⟩ = some (.int .i64 a1_0) := (blk_cell BK124.out 0).trans rfl; have hcz19_1 : w18.cell? ⟨gb124, 1, none⟩ = some (.int .i64 a1_1) := (blk_cell BK124.out 1).trans rfl; have hcz19_2 : w18.cell? ⟨gb124, 2, none⟩ = some (.int .i64 a1_2) := (blk_cell BK124.out 2).trans rfl; have hcz19_3 : w18.cell? ⟨gb124, 3, none⟩ = some (.string a1_3) := (blk_cell BK124.out 3).trans rfl; have hfz19_0 := blk_frozen BK124.out 0; have hfz19_1 := blk_frozen BK124.out 1; have hfz19_2 := blk_frozen BK124.out 2; have hfz19_3 := blk_frozen BK124.out 3) | ((with_reducible refine gate_callee (f := 47) rfl ?_); refine goesL_ (some 24) rfl rfl Try.func47 (by kernel_rfl) rfl #[.agg #[.int .i64 a1_0, .int .i64 a1_1, .int .i64 a1_2, .string a1_3]] rfl (by (try simp only [List.map_toArray, List.map_cons, List.map_nil]); first | done | rfl | (simp only [List.length_drop, List.length_take]; rfl)) ?_; (with_reducible refine (frame_Strip.calls k a1_0 a1_1 a1_2 a1_3 t129 t130 t131 _ A4.out).mono ?_); rintro e w20 ⟨rfl, hb⟩; refine ⟨_, rfl, ?_⟩; have n0_ := Aside0.mk (IsS63.below (by repeat (first | (with_reducible first | exact HI0.out | apply IsS63.alloc | apply IsS63.drewN | apply IsS63.drew | apply IsS63.set_0 | apply IsS63.set_1 | apply IsS63.set_2 | apply IsS63.set_3 | refine IsS63.far ?_ NB0_124.out _ | apply IsS63.far (hne := NB0_124.out) | refine IsS63.far ?_ NB0_125.out _ | apply IsS63.far (hne := NB0_125.out) | refine IsS63.far ?_ NB0_126.out _ | apply IsS63.far (hne := NB0_126.out)) | exact HI0.out)) hb); have n1_ := Aside0.mk (blk_below (g := gb124) (o := .cells #[.int .i64 a1_0, .int .i64 a1_1, .int .i64 a1_2, .string a1_3] 39 (0, 0)) (by (with_reducible repeat (first | refine blk_drewN ?_ _ | refine blk_drew ?_ | refine blk_alloc ?_ _)); exact BK124.out) hb); have n2_ := Aside0.mk (blk_below (g := gb125) (o := .cells #[.int .i64 0, .string (⟨#[]⟩ : ByteArray), .bool false] 41 (0, 0)) (by (with_reducible repeat (first | refine blk_drewN ?_ _ | refine blk_drew ?_ | refine blk_alloc ?_ _)); exact BK125.out) hb); have n3_ := Aside0.mk (blk_below (g := gb126) (o := .cells #[.int .i64 s0_1, .string s0_2, .bool s0_3] 41 (0, 0)) (by (with_reducible repeat (first | refine blk_drewN ?_ _ | refine blk_drew ?_ | refine blk_alloc ?_ _)); exact BK126.out) hb); have n4_ := Aside0.mk (KeepBut.trans (by repeat (first | (with_reducible first | exact HK.out | apply KeepBut.set_ | apply keep_drewN | apply keep_drew | apply keep_alloc | refine keep_far ?_ GW124.out _ | refine keep_far ?_ GW125.out _ | refine keep_far ?_ GW126.out _) | exact HK.out)) (KeepBut.of_below hb g none) (.inl rfl)); have n5_ := Aside0.mk (below_step (by repeat (first | (with_reducible first | exact HB.out | apply below_alloc | apply pw_below_drewN | apply below_drew1 | refine below_set ?_ (IsS63.ge HI0.out) | refine below_set ?_ GE124.out | refine below_set ?_ GE125.out | refine below_set ?_ GE126.out) | exact HB.out)) hb); clear HI0; clear BK124; clear BK125; clear BK126; clear HK; clear HB; have HI0 := n0_; have BK124 := n1_; have BK125 := n2_; have BK126 := n3_; have HK := n4_; have HB := n5_; clear n0_ n1_ n2_ n3_ n4_ n5_; (try clear hb); (try clear hb2); (try clear hk); (try clear hi)))
  (try simp only [Act.put, List.setIfInBounds_toArray, List.set_cons_zero, List.set_cons_succ])
  go_cut [32] (fun v32 wc => ∃ (kq : Nat) (x32_5 : Bool), v32 = .bool x32_5 ∧ Aside0 (block_Blocks_take.j0 kq t129 x32_5 s0_0 s0_1 s0_2 s0_3 a1_0 a1_1 a1_2 a1_3 s0_1 s0_2 s0_3 = some (r1, r2, r3, r4, r5, r6, r7, r8, r9)) ∧ Aside0 (kq ≤ k) ∧ Aside0 (wc.heap[gb124]? = some (.cells #[.int .i64 a1_0, .int .i64 a1_1, .int .i64 a1_2, .string a1_3] 39 (0, 0))) ∧ Aside0 (wc.heap[gb125]? = some (.cells #[.int .i64 0, .string (⟨#[]⟩ : ByteArray), .bool false] 41 (0, 0))) ∧ Aside0 (wc.heap[gb126]? = some (.cells #[.int .i64 s0_1, .string s0_2, .bool s0_3] 41 (0, 0))) ∧ Aside0 (IsS63 w0 wc g s0_0 s0_1 s0_2 s0_3) ∧ Aside0 (KeepBut w wc g none) ∧ Aside0 (Below w0.heap.size w0 wc))
  case first =>
   have H := HC6.out
   clear HC6
   by_cases c21 : s0_1 = 0
   ·rw [if_pos c21] at H
    have c21b0 : (s0_1 == 0) = true := beq_iff_eq.mpr c21
    have c21b1 : (s0_1 != 0) = false := bne_eq_false_iff_eq.mpr c21
    clear c21
    (first | rw [c21b0] | (simp only [i64_w, i32_w]; rw [c21b0]) | skip)
    have H' := Aside0.mk H
    clear H
    have hnb22 := NB126_124.out
    have hnc22 := NB124_126.out
    have hnb23 := NB126_125.out
    have hnc23 := NB125_126.out
    have hnb24 := NB126_0.out
    have hnc24 := NB0_126.out
    have hcz25_0 : w20.cell? ⟨gb126, 0, none⟩ = some (.int .i64 s0_1) := (blk_cell BK126.out 0).trans rfl
    have hcz25_1 : w20.cell? ⟨gb126, 1, none⟩ = some (.string s0_2) := (blk_cell BK126.out 1).trans rfl
    have hcz25_2 : w20.cell? ⟨gb126, 2, none⟩ = some (.bool s0_3) := (blk_cell BK126.out 2).trans rfl
    have hfz25_0 := blk_frozen BK126.out 0
    have hfz25_1 := blk_frozen BK126.out 1
    have hfz25_2 := blk_frozen BK126.out 2
    have hnb26 := NB124_125.out
    have hnc26 := NB125_124.out
    have hnb27 := NB124_0.out
    have hnc27 := NB0_124.out
    have hcz28_0 : w20.cell? ⟨gb124, 0, none⟩ = some (.int .i64 a1_0) := (blk_cell BK124.out 0).trans rfl
    have hcz28_1 : w20.cell? ⟨gb124, 1, none⟩ = some (.int .i64 a1_1) := (blk_cell BK124.out 1).trans rfl
    have hcz28_2 : w20.cell? ⟨gb124, 2, none⟩ = some (.int .i64 a1_2) := (blk_cell BK124.out 2).trans rfl
    have hcz28_3 : w20.cell? ⟨gb124, 3, none⟩ = some (.string a1_3) := (blk_cell BK124.out 3).trans rfl
    have hfz28_0 := blk_frozen BK124.out 0
    have hfz28_1 := blk_frozen BK124.out 1
    have hfz28_2 := blk_frozen BK124.out 2
    have hfz28_3 := blk_frozen BK124.out 3
    go_wp2
    go_meet
    case rel => exact ⟨_, ((a1_0 == 1)), (by first | rfl | (simp; done) | (simp [*]; done)), H', ⟨by first | omega | exact Nat.le_refl _⟩, ⟨by (with_reducible repeat (first | refine blk_drewN ?_ _ | refine blk_drew ?_ | refine blk_alloc ?_ _)); exact BK124.out⟩, ⟨by (with_reducible repeat (first | refine blk_drewN ?_ _ | refine blk_drew ?_ | refine blk_alloc ?_ _)); exact BK125.out⟩, ⟨by (with_reducible repeat (first | refine blk_drewN ?_ _ | refine blk_drew ?_ | refine blk_alloc ?_ _)); exact BK126.out⟩, ⟨by repeat (first | (with_reducible first | exact HI0.out | apply IsS63.alloc | apply IsS63.drewN | apply IsS63.drew | apply IsS63.set_0 | apply IsS63.set_1 | apply IsS63.set_2 | apply IsS63.set_3 | refine IsS63.far ?_ NB0_124.out _ | apply IsS63.far (hne := NB0_124.out) | refine IsS63.far ?_ NB0_125.out _ | apply IsS63.far (hne := NB0_125.out) | refine IsS63.far ?_ NB0_126.out _ | apply IsS63.far (hne := NB0_126.out)) | exact HI0.out)⟩, ⟨by repeat (first | (with_reducible first | exact HK.out | apply KeepBut.set_ | apply keep_drewN | apply keep_drew | apply keep_alloc | refine keep_far ?_ GW124.out _ | refine keep_far ?_ GW125.out _ | refine keep_far ?_ GW126.out _) | exact HK.out)⟩, ⟨by repeat (first | (with_reducible first | exact HB.out | apply below_alloc | apply pw_below_drewN | apply below_drew1 | refine below_set ?_ (IsS63.ge HI0.out) | refine below_set ?_ GE124.out | refine below_set ?_ GE125.out | refine below_set ?_ GE126.out) | exact HB.out)⟩⟩
   ·rw [if_neg c21] at H
    have c21b0 : (s0_1 == 0) = false := beq_eq_false_iff_ne.mpr c21
    have c21b1 : (s0_1 != 0) = true := bne_iff_ne.mpr c21
    (first | rw [c21b0] | (simp only [i64_w, i32_w]; rw [c21b0]) | skip)
    have H' := Aside0.mk H
    clear H
    have hnb29 := NB126_124.out
    have hnc29 := NB124_126.out
    have hnb30 := NB126_125.out
    have hnc30 := NB125_126.out
    have hnb31 := NB126_0.out
    have hnc31 := NB0_126.out
    have hcz32_0 : w20.cell? ⟨gb126, 0, none⟩ = some (.int .i64 s0_1) := (blk_cell BK126.out 0).trans rfl
    have hcz32_1 : w20.cell? ⟨gb126, 1, none⟩ = some (.string s0_2) := (blk_cell BK126.out 1).trans rfl
    have hcz32_2 : w20.cell? ⟨gb126, 2, none⟩ = some (.bool s0_3) := (blk_cell BK126.out 2).trans rfl
    have hfz32_0 := blk_frozen BK126.out 0
    have hfz32_1 := blk_frozen BK126.out 1
    have hfz32_2 := blk_frozen BK126.out 2
    go_wp2
    go_meet
    case rel => exact ⟨_, (false), (by first | rfl | (simp; done) | (simp [*]; done)), H', ⟨by first | omega | exact Nat.le_refl _⟩, ⟨by (with_reducible repeat (first | refine blk_drewN ?_ _ | refine blk_drew ?_ | refine blk_alloc ?_ _)); exact BK124.out⟩, ⟨by (with_reducible repeat (first | refine blk_drewN ?_ _ | refine blk_drew ?_ | refine blk_alloc ?_ _)); exact BK125.out⟩, ⟨by (with_reducible repeat (first | refine blk_drewN ?_ _ | refine blk_drew ?_ | refine blk_alloc ?_ _)); exact BK126.out⟩, ⟨by repeat (first | (with_reducible first | exact HI0.out | apply IsS63.alloc | apply IsS63.drewN | apply IsS63.drew | apply IsS63.set_0 | apply IsS63.set_1 | apply IsS63.set_2 | apply IsS63.set_3 | refine IsS63.far ?_ NB0_124.out _ | apply IsS63.far (hne := NB0_124.out) | refine IsS63.far ?_ NB0_125.out _ | apply IsS63.far (hne := NB0_125.out) | refine IsS63.far ?_ NB0_126.out _ | apply IsS63.far (hne := NB0_126.out)) | exact HI0.out)⟩, ⟨by repeat (first | (with_reducible first | exact HK.out | apply KeepBut.set_ | apply keep_drewN | apply keep_drew | apply keep_alloc | refine keep_far ?_ GW124.out _ | refine keep_far ?_ GW125.out _ | refine keep_far ?_ GW126.out _) | exact HK.out)⟩, ⟨by repeat (first | (with_reducible first | exact HB.out | apply below_alloc | apply pw_below_drewN | apply below_drew1 | refine below_set ?_ (IsS63.ge HI0.out) | refine below_set ?_ GE124.out | refine below_set ?_ GE125.out | refine below_set ?_ GE126.out) | exact HB.out)⟩⟩
  case rest =>
   clear HC6
   try clear c1
   try clear c2
   try clear p2
   try clear c3
   try clear c4
   try clear c5
   try clear c5b0
   try clear c5b1
   try clear c11
   try clear c12
   try clear c13
   try clear c15
   try clear c16
   try clear c21
   try clear c21b0
   try clear c21b1
   try clear c22
   try clear c23
   try clear c24
   try clear c26
   try clear c27
   try clear c29
   try clear c30
   try clear c31
   try clear hcz14_0
   try clear hcz14_1
   try clear hcz14_2
   try clear hcz17_0
   try clear hcz17_1
   try clear hcz17_2
   try clear hcz17_3
   try clear hcz19_0
   try clear hcz19_1
   try clear hcz19_2
   try clear hcz19_3
   try clear hcz25_0
   try clear hcz25_1
   try clear hcz25_2
   try clear hcz28_0
   try clear hcz28_1
   try clear hcz28_2
   try clear hcz28_3
   try clear hcz32_0
   try clear hcz32_1
   try clear hcz32_2
   try clear hcz9_0
   try clear hcz9_1
   try clear hcz9_2
   try clear hcz9_3
   try clear hfz14_0
   try clear hfz14_1
   try clear hfz14_2
   try clear hfz17_0
   try clear hfz17_1
   try clear hfz17_2
   try clear hfz17_3
   try clear hfz19_0
   try clear hfz19_1
   try clear hfz19_2
   try clear hfz19_3
   try clear hfz25_0
   try clear hfz25_1
   try clear hfz25_2
   try clear hfz28_0
   try clear hfz28_1
   try clear hfz28_2
   try clear hfz28_3
   try clear hfz32_0
   try clear hfz32_1
   try clear hfz32_2
   try clear hfz9_0
   try clear hfz9_1
   try clear hfz9_2
   try clear hfz9_3
   obtain ⟨kq, x32_5, rfl, HA, HJ5, BK124, BK125, BK126, HI0, HK, HB⟩ := hcut
   cases kq with
   | zero => exact absurd HA.out (by simp [block_Blocks_take.j0])
   | succ kj5 =>
    have H := HA.out
    clear HA
    simp only [block_Blocks_take.j0] at H
    by_cases c33 : x32_5 = true
    ·subst c33
     have H1 : (if 0 + t129.size ≤ 9223372036854775807 then (if (((⟨#[]⟩ : ByteArray) ++ t129).size : Int) > s0_0 then (some (0, (⟨#[]⟩ : ByteArray), false, false, 5, s0_0, s0_1, s0_2, s0_3)) else (some (a1_2, (⟨#[]⟩ : ByteArray) ++ t129, ((Go.bits .and .i64 a1_1 1) != 0), ((Go.bits .and .i64 a1_1 4) != 0), 0, s0_0, s0_1, s0_2, s0_3))) else (none)) = some (r1, r2, r3, r4, r5, r6, r7, r8, r9) := by rw [if_pos rfl] at H; exact H
     clear H
     have H := H1
     clear H1
     by_cases c34 : 0 + t129.size ≤ 9223372036854775807
     ·rw [if_pos c34] at H
      have c34b0 := eq_true c34
      have c34b1 : decide (0 + t129.size ≤ 9223372036854775807) = true := decide_eq_true c34
      try have c34b2 : (9223372036854775807 < 0 + t129.size) = False := eq_false (Nat.not_lt.2 c34)
      by_cases c35 : (((⟨#[]⟩ : ByteArray) ++ t129).size : Int) > s0_0
      ·rw [if_pos c35] at H
       have c35b0 : decide (s0_0 < (((⟨#[]⟩ : ByteArray) ++ t129).size : Int)) = true := decide_eq_true c35
       try have c35n1 : decide (s0_0 < (((⟨#[]⟩ : ByteArray).size + t129.size : Nat) : Int)) = true := by have z := c35b0; rw [ByteArray.size_append] at z; exact z
       try have c35n2 : decide (s0_0 < ((⟨#[]⟩ : ByteArray).size : Int) + (t129.size : Int)) = true := by have z := c35b0; rw [ByteArray.size_append, Int.natCast_add] at z; exact z
       try have c35n3 : decide (s0_0 < (t129.size : Int)) = true := by have z := c35b0; rw [ByteArray.size_append, show (⟨#[]⟩ : ByteArray).size = 0 from rfl, Nat.zero_add] at z; exact z
       clear c35
       simp only [Option.some.injEq, Prod.mk.injEq] at H
       obtain ⟨rfl, rfl, rfl, rfl, rfl, rfl, rfl, rfl, rfl⟩ := H
       have hnb36 := NB124_125.out
       have hnc36 := NB125_124.out
       have hnb37 := NB124_126.out
       have hnc37 := NB126_124.out
       have hnb38 := NB124_0.out
       have hnc38 := NB0_124.out
       have hcz39_0 : wc.cell? ⟨gb124, 0, none⟩ = some (.int .i64 a1_0) := (blk_cell BK124.out 0).trans rfl
       have hcz39_1 : wc.cell? ⟨gb124, 1, none⟩ = some (.int .i64 a1_1) := (blk_cell BK124.out 1).trans rfl
       have hcz39_2 : wc.cell? ⟨gb124, 2, none⟩ = some (.int .i64 a1_2) := (blk_cell BK124.out 2).trans rfl
       have hcz39_3 : wc.cell? ⟨gb124, 3, none⟩ = some (.string a1_3) := (blk_cell BK124.out 3).trans rfl
       have hfz39_0 := blk_frozen BK124.out 0
       have hfz39_1 := blk_frozen BK124.out 1
       have hfz39_2 := blk_frozen BK124.out 2
       have hfz39_3 := blk_frozen BK124.out 3
       have hnb40 := NB126_125.out
       have hnc40 := NB125_126.out
       have hnb41 := NB126_0.out
       have hnc41 := NB0_126.out
       have hcz42_0 : wc.cell? ⟨gb126, 0, none⟩ = some (.int .i64 s0_1) := (blk_cell BK126.out 0).trans rfl
       have hcz42_1 : wc.cell? ⟨gb126, 1, none⟩ = some (.string s0_2) := (blk_cell BK126.out 1).trans rfl
       have hcz42_2 : wc.cell? ⟨gb126, 2, none⟩ = some (.bool s0_3) := (blk_cell BK126.out 2).trans rfl
       have hfz42_0 := blk_frozen BK126.out 0
       have hfz42_1 := blk_frozen BK126.out 1
       have hfz42_2 := blk_frozen BK126.out 2
       try go_wp2
       have n0_ : Aside0 (((((wc.setCell ⟨gb126, 0, none⟩ (.int .i64 a1_2)).setCell ⟨gb126, 1, none⟩ (.string (⟨#[]⟩ : ByteArray))).setCell ⟨gb126, 2, none⟩ (.bool ((Go.bits .and .i64 a1_1 1) != 0))).setCell ⟨gb126, 1, none⟩ (.string ((⟨#[]⟩ : ByteArray) ++ t129))).heap[gb124]? = some (.cells #[.int .i64 a1_0, .int .i64 a1_1, .int .i64 a1_2, .string a1_3] 39 (0, 0))) := ⟨by (with_reducible repeat (first | refine blk_drewN ?_ _ | refine blk_drew ?_ | refine blk_alloc ?_ _)); refine blk_far ?_ NB124_126.out _; (with_reducible repeat (first | refine blk_drewN ?_ _ | refine blk_drew ?_ | refine blk_alloc ?_ _)); refine blk_far ?_ NB124_126.out _; (with_reducible repeat (first | refine blk_drewN ?_ _ | refine blk_drew ?_ | refine blk_alloc ?_ _)); refine blk_far ?_ NB124_126.out _; (with_reducible repeat (first | refine blk_drewN ?_ _ | refine blk_drew ?_ | refine blk_alloc ?_ _)); refine blk_far ?_ NB124_126.out _; (with_reducible repeat (first | refine blk_drewN ?_ _ | refine blk_drew ?_ | refine blk_alloc ?_ _)); exact BK124.out⟩
       have n1_ : Aside0 (((((wc.setCell ⟨gb126, 0, none⟩ (.int .i64 a1_2)).setCell ⟨gb126, 1, none⟩ (.string (⟨#[]⟩ : ByteArray))).setCell ⟨gb126, 2, none⟩ (.bool ((Go.bits .and .i64 a1_1 1) != 0))).setCell ⟨gb126, 1, none⟩ (.string ((⟨#[]⟩ : ByteArray) ++ t129))).heap[gb125]? = some (.cells #[.int .i64 0, .string (⟨#[]⟩ : ByteArray), .bool false] 41 (0, 0))) := ⟨by (with_reducible repeat (first | refine blk_drewN ?_ _ | refine blk_drew ?_ | refine blk_alloc ?_ _)); refine blk_far ?_ NB125_126.out _; (with_reducible repeat (first | refine blk_drewN ?_ _ | refine blk_drew ?_ | refine blk_alloc ?_ _)); refine blk_far ?_ NB125_126.out _; (with_reducible repeat (first | refine blk_drewN ?_ _ | refine blk_drew ?_ | refine blk_alloc ?_ _)); refine blk_far ?_ NB125_126.out _; (with_reducible repeat (first | refine blk_drewN ?_ _ | refine blk_drew ?_ | refine blk_alloc ?_ _)); refine blk_far ?_ NB125_126.out _; (with_reducible repeat (first | refine blk_drewN ?_ _ | refine blk_drew ?_ | refine blk_alloc ?_ _)); exact BK125.out⟩
       have n2_ : Aside0 (((((wc.setCell ⟨gb126, 0, none⟩ (.int .i64 a1_2)).setCell ⟨gb126, 1, none⟩ (.string (⟨#[]⟩ : ByteArray))).setCell ⟨gb126, 2, none⟩ (.bool ((Go.bits .and .i64 a1_1 1) != 0))).setCell ⟨gb126, 1, none⟩ (.string ((⟨#[]⟩ : ByteArray) ++ t129))).heap[gb126]? = some (.cells #[.int .i64 a1_2, .string ((⟨#[]⟩ : ByteArray) ++ t129), .bool ((Go.bits .and .i64 a1_1 1) != 0)] 41 (0, 0))) := ⟨by (with_reducible repeat (first | refine blk_drewN ?_ _ | refine blk_drew ?_ | refine blk_alloc ?_ _)); refine blk_put (cs := #[.int .i64 a1_2, .string (⟨#[]⟩ : ByteArray), .bool ((Go.bits .and .i64 a1_1 1) != 0)]) ?_ 1 _ rfl; (with_reducible repeat (first | refine blk_drewN ?_ _ | refine blk_drew ?_ | refine blk_alloc ?_ _)); refine blk_put (cs := #[.int .i64 a1_2, .string (⟨#[]⟩ : ByteArray), .bool s0_3]) ?_ 2 _ rfl; (with_reducible repeat (first | refine blk_drewN ?_ _ | refine blk_drew ?_ | refine blk_alloc ?_ _)); refine blk_put (cs := #[.int .i64 a1_2, .string s0_2, .bool s0_3]) ?_ 1 _ rfl; (with_reducible repeat (first | refine blk_drewN ?_ _ | refine blk_drew ?_ | refine blk_alloc ?_ _)); refine blk_put (cs := #[.int .i64 s0_1, .string s0_2, .bool s0_3]) ?_ 0 _ rfl; (with_reducible repeat (first | refine blk_drewN ?_ _ | refine blk_drew ?_ | refine blk_alloc ?_ _)); exact BK126.out⟩
       have n3_ : Aside0 (IsS63 w0 ((((wc.setCell ⟨gb126, 0, none⟩ (.int .i64 a1_2)).setCell ⟨gb126, 1, none⟩ (.string (⟨#[]⟩ : ByteArray))).setCell ⟨gb126, 2, none⟩ (.bool ((Go.bits .and .i64 a1_1 1) != 0))).setCell ⟨gb126, 1, none⟩ (.string ((⟨#[]⟩ : ByteArray) ++ t129))) g s0_0 s0_1 s0_2 s0_3) := ⟨by repeat (first | (with_reducible first | exact HI0.out | apply IsS63.alloc | apply IsS63.drewN | apply IsS63.drew | apply IsS63.set_0 | apply IsS63.set_1 | apply IsS63.set_2 | apply IsS63.set_3 | refine IsS63.far ?_ NB0_124.out _ | apply IsS63.far (hne := NB0_124.out) | refine IsS63.far ?_ NB0_125.out _ | apply IsS63.far (hne := NB0_125.out) | refine IsS63.far ?_ NB0_126.out _ | apply IsS63.far (hne := NB0_126.out)) | exact HI0.out)⟩
       have n4_ : Aside0 (KeepBut w ((((wc.setCell ⟨gb126, 0, none⟩ (.int .i64 a1_2)).setCell ⟨gb126, 1, none⟩ (.string (⟨#[]⟩ : ByteArray))).setCell ⟨gb126, 2, none⟩ (.bool ((Go.bits .and .i64 a1_1 1) != 0))).setCell ⟨gb126, 1, none⟩ (.string ((⟨#[]⟩ : ByteArray) ++ t129))) g none) := ⟨by repeat (first | (with_reducible first | exact HK.out | apply KeepBut.set_ | apply keep_drewN | apply keep_drew | apply keep_alloc | refine keep_far ?_ GW124.out _ | refine keep_far ?_ GW125.out _ | refine keep_far ?_ GW126.out _) | exact HK.out)⟩
       have n5_ : Aside0 (Below w0.heap.size w0 ((((wc.setCell ⟨gb126, 0, none⟩ (.int .i64 a1_2)).setCell ⟨gb126, 1, none⟩ (.string (⟨#[]⟩ : ByteArray))).setCell ⟨gb126, 2, none⟩ (.bool ((Go.bits .and .i64 a1_1 1) != 0))).setCell ⟨gb126, 1, none⟩ (.string ((⟨#[]⟩ : ByteArray) ++ t129)))) := ⟨by repeat (first | (with_reducible first | exact HB.out | apply below_alloc | apply pw_below_drewN | apply below_drew1 | refine below_set ?_ (IsS63.ge HI0.out) | refine below_set ?_ GE124.out | refine below_set ?_ GE125.out | refine below_set ?_ GE126.out) | exact HB.out)⟩
       (try clear BK124)
       (try clear BK125)
       (try clear BK126)
       (try clear HI0)
       (try clear HK)
       (try clear HB)
       generalize ((((wc.setCell ⟨gb126, 0, none⟩ (.int .i64 a1_2)).setCell ⟨gb126, 1, none⟩ (.string (⟨#[]⟩ : ByteArray))).setCell ⟨gb126, 2, none⟩ (.bool ((Go.bits .and .i64 a1_1 1) != 0))).setCell ⟨gb126, 1, none⟩ (.string ((⟨#[]⟩ : ByteArray) ++ t129))) = w43 at n0_ n1_ n2_ n3_ n4_ n5_ ⊢
       have BK124 := n0_
       have BK125 := n1_
       have BK126 := n2_
       have HI0 := n3_
       have HK := n4_
       have HB := n5_
       clear n0_ n1_ n2_ n3_ n4_ n5_
       have n0_ := Aside0.mk (blk_drew BK124.out)
       have n1_ := Aside0.mk (blk_drew BK125.out)
       have n2_ := Aside0.mk (blk_drew BK126.out)
       have n3_ := Aside0.mk (IsS63.drew HI0.out)
       have n4_ := Aside0.mk (keep_drew HK.out)
       have n5_ := Aside0.mk (below_drew1 HB.out)
       clear BK124
       clear BK125
       clear BK126
       clear HI0
       clear HK
       clear HB
       have BK124 := n0_
       have BK125 := n1_
       have BK126 := n2_
       have HI0 := n3_
       have HK := n4_
       have HB := n5_
       clear n0_ n1_ n2_ n3_ n4_ n5_
       refine start_ (n := 8) (S := fun w' => w'.cell? ⟨gb126, 0, none⟩ = some (.int .i64 a1_2) ∧ w'.cell? ⟨gb126, 1, none⟩ = some (.string ((⟨#[]⟩ : ByteArray) ++ t129)) ∧ w'.cell? ⟨gb126, 2, none⟩ = some (.bool ((Go.bits .and .i64 a1_1 1) != 0)) ∧ w'.cell? ⟨g, 0, none⟩ = some (.int .i64 s0_0) ∧ w'.cell? ⟨g, 1, none⟩ = some (.int .i64 s0_1) ∧ w'.cell? ⟨g, 2, none⟩ = some (.string s0_2) ∧ w'.cell? ⟨g, 3, none⟩ = some (.bool s0_3)) (ds := []) #[false, false, false, false, false, false, false, false] (by kernel_rfl) rfl rfl ⟨(blk_cell BK126.out 0).trans rfl, (blk_cell BK126.out 1).trans rfl, (blk_cell BK126.out 2).trans rfl, cellS63_0 HI0.out.1, cellS63_1 HI0.out.1, cellS63_2 HI0.out.1, cellS63_3 HI0.out.1⟩ (fun hHeld => ?_); refine with_tabW block_Blocks_take.tab13 block_Blocks_take.bits13 (fun HT_ HW_ => ?_)
       generalize w43.drew = w44 at BK124 BK125 BK126 HI0 HK HB hHeld ⊢
       refine pure_ (i := 0) (N := some 80) (v := ?_) (a' := ?_) #[true, false, false, false, false, false, false, false] rfl rfl (any_of HT_.out (by kernel_rfl)) (fun _ _ _ h => h) (Or.inl ⟨by rfl, ?_⟩) ?_ ?_
       rotate_left
       ·intro w'
        go_simp
        with_reducible rfl
       rotate_left
       ·simp only [Act.put, List.setIfInBounds_toArray, List.set_cons_zero, List.set_cons_succ, i64_w, i32_w]
        rfl
       refine pure_ (i := 3) (N := some 83) (v := ?_) (a' := ?_) #[true, false, false, true, false, false, false, false] rfl rfl (any_of HT_.out (by kernel_rfl)) (fun _ _ _ h => h) (Or.inl ⟨by rfl, ?_⟩) ?_ ?_
       rotate_left
       ·intro w'
        go_simp
        with_reducible rfl
       rotate_left
       ·simp only [Act.put, List.setIfInBounds_toArray, List.set_cons_zero, List.set_cons_succ, i64_w, i32_w]
        rfl
       refine pure_ (i := 4) (N := some 84) (v := ?_) (a' := ?_) #[true, false, false, true, true, false, false, false] rfl rfl (any_of HT_.out (by kernel_rfl)) (fun _ _ _ h => h) (Or.inl ⟨by rfl, ?_⟩) ?_ ?_
       rotate_left
       ·intro w'
        go_simp
        with_reducible rfl
       rotate_left
       ·simp only [Act.put, List.setIfInBounds_toArray, List.set_cons_zero, List.set_cons_succ, i64_w, i32_w]
        rfl
       refine pure_ (i := 5) (N := some 85) (v := ?_) (a' := ?_) #[true, false, false, true, true, true, false, false] rfl rfl (any_of HT_.out (by kernel_rfl)) (fun _ _ _ h => h) (Or.inl ⟨by rfl, ?_⟩) ?_ ?_
       rotate_left
       ·intro w'
        go_simp
        with_reducible rfl
       rotate_left
       ·simp only [Act.put, List.setIfInBounds_toArray, List.set_cons_zero, List.set_cons_succ, i64_w, i32_w]
        rfl
       refine take_ (i := 1) (N := some 81) (v := ?_) (a' := ?_) #[true, true, false, true, true, true, false, false] rfl rfl (take_ofW HT_.out HW_.out (by kernel_rfl)) (fun _ _ _ h => h) (Or.inl ⟨by rfl, ?_⟩) hHeld ?_ ?_
       rotate_left
       ·rintro w' ⟨s0, s1, s2, s3, s4, s5, s6⟩
        go_simp
        with_reducible rfl
       rotate_left
       ·simp only [Act.put, List.setIfInBounds_toArray, List.set_cons_zero, List.set_cons_succ, i64_w, i32_w]
        rfl
       refine pure_ (i := 2) (N := some 82) (v := ?_) (a' := ?_) #[true, true, true, true, true, true, false, false] rfl rfl (any_of HT_.out (by kernel_rfl)) (fun _ _ _ h => h) (Or.inl ⟨by rfl, ?_⟩) ?_ ?_
       rotate_left
       ·intro w'
        go_simp
        with_reducible rfl
       rotate_left
       ·simp only [Act.put, List.setIfInBounds_toArray, List.set_cons_zero, List.set_cons_succ, i64_w, i32_w]
        rfl
       refine take_ (i := 6) (N := some 86) (v := ?_) (a' := ?_) #[true, true, true, true, true, true, true, false] rfl rfl (take_ofW HT_.out HW_.out (by kernel_rfl)) (fun _ _ _ h => h) (Or.inl ⟨by rfl, ?_⟩) hHeld ?_ ?_
       rotate_left
       ·rintro w' ⟨s0, s1, s2, s3, s4, s5, s6⟩
        go_simp
        with_reducible rfl
       rotate_left
       ·simp only [Act.put, List.setIfInBounds_toArray, List.set_cons_zero, List.set_cons_succ, i64_w, i32_w]
        rfl
       refine pure_ (i := 7) (N := some 87) (v := ?_) (a' := ?_) #[true, true, true, true, true, true, true, true] rfl rfl (any_of HT_.out (by kernel_rfl)) (fun _ _ _ h => h) (Or.inl ⟨by rfl, ?_⟩) ?_ ?_
       rotate_left
       ·intro w'
        go_simp
        with_reducible rfl
       rotate_left
       ·simp only [Act.put, List.setIfInBounds_toArray, List.set_cons_zero, List.set_cons_succ, i64_w, i32_w]
        rfl
       refine done_ (done_of HT_.out (by kernel_rfl)) ?_
       have hnb45 := NB125_0.out
       have hnc45 := NB0_125.out
       have hcz46_0 : w44.cell? ⟨gb125, 0, none⟩ = some (.int .i64 0) := (blk_cell BK125.out 0).trans rfl
       have hcz46_1 : w44.cell? ⟨gb125, 1, none⟩ = some (.string (⟨#[]⟩ : ByteArray)) := (blk_cell BK125.out 1).trans rfl
       have hcz46_2 : w44.cell? ⟨gb125, 2, none⟩ = some (.bool false) := (blk_cell BK125.out 2).trans rfl
       have hfz46_0 := blk_frozen BK125.out 0
       have hfz46_1 := blk_frozen BK125.out 1
       have hfz46_2 := blk_frozen BK125.out 2
       try go_wp2
       refine bodyPost_ret (results_ctt rfl _ _ gb125 41 #[.int .i64 0, .string (⟨#[]⟩ : ByteArray), .bool false] (0, 0) _ rfl (by (with_reducible repeat (first | refine blk_drewN ?_ _ | refine blk_drew ?_ | refine blk_alloc ?_ _)); refine blk_put (cs := #[.int .i64 0, .string (⟨#[]⟩ : ByteArray), .bool false]) ?_ 2 _ rfl; (with_reducible repeat (first | refine blk_drewN ?_ _ | refine blk_drew ?_ | refine blk_alloc ?_ _)); refine blk_put (cs := #[.int .i64 0, .string (⟨#[]⟩ : ByteArray), .bool false]) ?_ 1 _ rfl; (with_reducible repeat (first | refine blk_drewN ?_ _ | refine blk_drew ?_ | refine blk_alloc ?_ _)); refine blk_put (cs := #[.int .i64 0, .string (⟨#[]⟩ : ByteArray), .bool false]) ?_ 0 _ rfl; (with_reducible repeat (first | refine blk_drewN ?_ _ | refine blk_drew ?_ | refine blk_alloc ?_ _)); exact BK125.out) Try.underlying41 rfl (by kernel_rfl)) rfl ?_
       exact ⟨by first | rfl | (simp [errW_none, errW_some] <;> rfl) | (simp [*, errW_none, errW_some] <;> rfl), by repeat (first | (with_reducible first | exact HI0.out | apply IsS63.alloc | apply IsS63.drewN | apply IsS63.drew | apply IsS63.set_0 | apply IsS63.set_1 | apply IsS63.set_2 | apply IsS63.set_3 | refine IsS63.far ?_ NB0_124.out _ | apply IsS63.far (hne := NB0_124.out) | refine IsS63.far ?_ NB0_125.out _ | apply IsS63.far (hne := NB0_125.out) | refine IsS63.far ?_ NB0_126.out _ | apply IsS63.far (hne := NB0_126.out)) | exact HI0.out), by repeat (first | (with_reducible first | exact HB.out | apply below_alloc | apply pw_below_drewN | apply below_drew1 | refine below_set ?_ (IsS63.ge HI0.out) | refine below_set ?_ GE124.out | refine below_set ?_ GE125.out | refine below_set ?_ GE126.out) | exact HB.out), by repeat (first | (with_reducible first | exact HK.out | apply KeepBut.set_ | apply keep_drewN | apply keep_drew | apply keep_alloc | refine keep_far ?_ GW124.out _ | refine keep_far ?_ GW125.out _ | refine keep_far ?_ GW126.out _) | exact HK.out)⟩
      ·rw [if_neg c35] at H
       have c35b0 : decide (s0_0 < (((⟨#[]⟩ : ByteArray) ++ t129).size : Int)) = false := decide_eq_false c35
       try have c35n1 : decide (s0_0 < (((⟨#[]⟩ : ByteArray).size + t129.size : Nat) : Int)) = false := by have z := c35b0; rw [ByteArray.size_append] at z; exact z
       try have c35n2 : decide (s0_0 < ((⟨#[]⟩ : ByteArray).size : Int) + (t129.size : Int)) = false := by have z := c35b0; rw [ByteArray.size_append, Int.natCast_add] at z; exact z
       try have c35n3 : decide (s0_0 < (t129.size : Int)) = false := by have z := c35b0; rw [ByteArray.size_append, show (⟨#[]⟩ : ByteArray).size = 0 from rfl, Nat.zero_add] at z; exact z
       clear c35
       simp only [Option.some.injEq, Prod.mk.injEq] at H
       obtain ⟨rfl, rfl, rfl, rfl, rfl, rfl, rfl, rfl, rfl⟩ := H
       have hnb47 := NB124_125.out
       have hnc47 := NB125_124.out
       have hnb48 := NB124_126.out
       have hnc48 := NB126_124.out
       have hnb49 := NB124_0.out
       have hnc49 := NB0_124.out
       have hcz50_0 : wc.cell? ⟨gb124, 0, none⟩ = some (.int .i64 a1_0) := (blk_cell BK124.out 0).trans rfl
       have hcz50_1 : wc.cell? ⟨gb124, 1, none⟩ = some (.int .i64 a1_1) := (blk_cell BK124.out 1).trans rfl
       have hcz50_2 : wc.cell? ⟨gb124, 2, none⟩ = some (.int .i64 a1_2) := (blk_cell BK124.out 2).trans rfl
       have hcz50_3 : wc.cell? ⟨gb124, 3, none⟩ = some (.string a1_3) := (blk_cell BK124.out 3).trans rfl
       have hfz50_0 := blk_frozen BK124.out 0
       have hfz50_1 := blk_frozen BK124.out 1
       have hfz50_2 := blk_frozen BK124.out 2
       have hfz50_3 := blk_frozen BK124.out 3
       have hnb51 := NB126_125.out
       have hnc51 := NB125_126.out
       have hnb52 := NB126_0.out
       have hnc52 := NB0_126.out
       have hcz53_0 : wc.cell? ⟨gb126, 0, none⟩ = some (.int .i64 s0_1) := (blk_cell BK126.out 0).trans rfl
       have hcz53_1 : wc.cell? ⟨gb126, 1, none⟩ = some (.string s0_2) := (blk_cell BK126.out 1).trans rfl
       have hcz53_2 : wc.cell? ⟨gb126, 2, none⟩ = some (.bool s0_3) := (blk_cell BK126.out 2).trans rfl
       have hfz53_0 := blk_frozen BK126.out 0
       have hfz53_1 := blk_frozen BK126.out 1
       have hfz53_2 := blk_frozen BK126.out 2
       try go_wp2
       have n0_ : Aside0 (((((wc.setCell ⟨gb126, 0, none⟩ (.int .i64 a1_2)).setCell ⟨gb126, 1, none⟩ (.string (⟨#[]⟩ : ByteArray))).setCell ⟨gb126, 2, none⟩ (.bool ((Go.bits .and .i64 a1_1 1) != 0))).setCell ⟨gb126, 1, none⟩ (.string ((⟨#[]⟩ : ByteArray) ++ t129))).heap[gb124]? = some (.cells #[.int .i64 a1_0, .int .i64 a1_1, .int .i64 a1_2, .string a1_3] 39 (0, 0))) := ⟨by (with_reducible repeat (first | refine blk_drewN ?_ _ | refine blk_drew ?_ | refine blk_alloc ?_ _)); refine blk_far ?_ NB124_126.out _; (with_reducible repeat (first | refine blk_drewN ?_ _ | refine blk_drew ?_ | refine blk_alloc ?_ _)); refine blk_far ?_ NB124_126.out _; (with_reducible repeat (first | refine blk_drewN ?_ _ | refine blk_drew ?_ | refine blk_alloc ?_ _)); refine blk_far ?_ NB124_126.out _; (with_reducible repeat (first | refine blk_drewN ?_ _ | refine blk_drew ?_ | refine blk_alloc ?_ _)); refine blk_far ?_ NB124_126.out _; (with_reducible repeat (first | refine blk_drewN ?_ _ | refine blk_drew ?_ | refine blk_alloc ?_ _)); exact BK124.out⟩
       have n1_ : Aside0 (((((wc.setCell ⟨gb126, 0, none⟩ (.int .i64 a1_2)).setCell ⟨gb126, 1, none⟩ (.string (⟨#[]⟩ : ByteArray))).setCell ⟨gb126, 2, none⟩ (.bool ((Go.bits .and .i64 a1_1 1) != 0))).setCell ⟨gb126, 1, none⟩ (.string ((⟨#[]⟩ : ByteArray) ++ t129))).heap[gb125]? = some (.cells #[.int .i64 0, .string (⟨#[]⟩ : ByteArray), .bool false] 41 (0, 0))) := ⟨by (with_reducible repeat (first | refine blk_drewN ?_ _ | refine blk_drew ?_ | refine blk_alloc ?_ _)); refine blk_far ?_ NB125_126.out _; (with_reducible repeat (first | refine blk_drewN ?_ _ | refine blk_drew ?_ | refine blk_alloc ?_ _)); refine blk_far ?_ NB125_126.out _; (with_reducible repeat (first | refine blk_drewN ?_ _ | refine blk_drew ?_ | refine blk_alloc ?_ _)); refine blk_far ?_ NB125_126.out _; (with_reducible repeat (first | refine blk_drewN ?_ _ | refine blk_drew ?_ | refine blk_alloc ?_ _)); refine blk_far ?_ NB125_126.out _; (with_reducible repeat (first | refine blk_drewN ?_ _ | refine blk_drew ?_ | refine blk_alloc ?_ _)); exact BK125.out⟩
       have n2_ : Aside0 (((((wc.setCell ⟨gb126, 0, none⟩ (.int .i64 a1_2)).setCell ⟨gb126, 1, none⟩ (.string (⟨#[]⟩ : ByteArray))).setCell ⟨gb126, 2, none⟩ (.bool ((Go.bits .and .i64 a1_1 1) != 0))).setCell ⟨gb126, 1, none⟩ (.string ((⟨#[]⟩ : ByteArray) ++ t129))).heap[gb126]? = some (.cells #[.int .i64 a1_2, .string ((⟨#[]⟩ : ByteArray) ++ t129), .bool ((Go.bits .and .i64 a1_1 1) != 0)] 41 (0, 0))) := ⟨by (with_reducible repeat (first | refine blk_drewN ?_ _ | refine blk_drew ?_ | refine blk_alloc ?_ _)); refine blk_put (cs := #[.int .i64 a1_2, .string (⟨#[]⟩ : ByteArray), .bool ((Go.bits .and .i64 a1_1 1) != 0)]) ?_ 1 _ rfl; (with_reducible repeat (first | refine blk_drewN ?_ _ | refine blk_drew ?_ | refine blk_alloc ?_ _)); refine blk_put (cs := #[.int .i64 a1_2, .string (⟨#[]⟩ : ByteArray), .bool s0_3]) ?_ 2 _ rfl; (with_reducible repeat (first | refine blk_drewN ?_ _ | refine blk_drew ?_ | refine blk_alloc ?_ _)); refine blk_put (cs := #[.int .i64 a1_2, .string s0_2, .bool s0_3]) ?_ 1 _ rfl; (with_reducible repeat (first | refine blk_drewN ?_ _ | refine blk_drew ?_ | refine blk_alloc ?_ _)); refine blk_put (cs := #[.int .i64 s0_1, .string s0_2, .bool s0_3]) ?_ 0 _ rfl; (with_reducible repeat (first | refine blk_drewN ?_ _ | refine blk_drew ?_ | refine blk_alloc ?_ _)); exact BK126.out⟩
       have n3_ : Aside0 (IsS63 w0 ((((wc.setCell ⟨gb126, 0, none⟩ (.int .i64 a1_2)).setCell ⟨gb126, 1, none⟩ (.string (⟨#[]⟩ : ByteArray))).setCell ⟨gb126, 2, none⟩ (.bool ((Go.bits .and .i64 a1_1 1) != 0))).setCell ⟨gb126, 1, none⟩ (.string ((⟨#[]⟩ : ByteArray) ++ t129))) g s0_0 s0_1 s0_2 s0_3) := ⟨by repeat (first | (with_reducible first | exact HI0.out | apply IsS63.alloc | apply IsS63.drewN | apply IsS63.drew | apply IsS63.set_0 | apply IsS63.set_1 | apply IsS63.set_2 | apply IsS63.set_3 | refine IsS63.far ?_ NB0_124.out _ | apply IsS63.far (hne := NB0_124.out) | refine IsS63.far ?_ NB0_125.out _ | apply IsS63.far (hne := NB0_125.out) | refine IsS63.far ?_ NB0_126.out _ | apply IsS63.far (hne := NB0_126.out)) | exact HI0.out)⟩
       have n4_ : Aside0 (KeepBut w ((((wc.setCell ⟨gb126, 0, none⟩ (.int .i64 a1_2)).setCell ⟨gb126, 1, none⟩ (.string (⟨#[]⟩ : ByteArray))).setCell ⟨gb126, 2, none⟩ (.bool ((Go.bits .and .i64 a1_1 1) != 0))).setCell ⟨gb126, 1, none⟩ (.string ((⟨#[]⟩ : ByteArray) ++ t129))) g none) := ⟨by repeat (first | (with_reducible first | exact HK.out | apply KeepBut.set_ | apply keep_drewN | apply keep_drew | apply keep_alloc | refine keep_far ?_ GW124.out _ | refine keep_far ?_ GW125.out _ | refine keep_far ?_ GW126.out _) | exact HK.out)⟩
       have n5_ : Aside0 (Below w0.heap.size w0 ((((wc.setCell ⟨gb126, 0, none⟩ (.int .i64 a1_2)).setCell ⟨gb126, 1, none⟩ (.string (⟨#[]⟩ : ByteArray))).setCell ⟨gb126, 2, none⟩ (.bool ((Go.bits .and .i64 a1_1 1) != 0))).setCell ⟨gb126, 1, none⟩ (.string ((⟨#[]⟩ : ByteArray) ++ t129)))) := ⟨by repeat (first | (with_reducible first | exact HB.out | apply below_alloc | apply pw_below_drewN | apply below_drew1 | refine below_set ?_ (IsS63.ge HI0.out) | refine below_set ?_ GE124.out | refine below_set ?_ GE125.out | refine below_set ?_ GE126.out) | exact HB.out)⟩
       (try clear BK124)
       (try clear BK125)
       (try clear BK126)
       (try clear HI0)
       (try clear HK)
       (try clear HB)
       generalize ((((wc.setCell ⟨gb126, 0, none⟩ (.int .i64 a1_2)).setCell ⟨gb126, 1, none⟩ (.string (⟨#[]⟩ : ByteArray))).setCell ⟨gb126, 2, none⟩ (.bool ((Go.bits .and .i64 a1_1 1) != 0))).setCell ⟨gb126, 1, none⟩ (.string ((⟨#[]⟩ : ByteArray) ++ t129))) = w54 at n0_ n1_ n2_ n3_ n4_ n5_ ⊢
       have BK124 := n0_
       have BK125 := n1_
       have BK126 := n2_
       have HI0 := n3_
       have HK := n4_
       have HB := n5_
       clear n0_ n1_ n2_ n3_ n4_ n5_
       have n0_ := Aside0.mk (blk_drew BK124.out)
       have n1_ := Aside0.mk (blk_drew BK125.out)
       have n2_ := Aside0.mk (blk_drew BK126.out)
       have n3_ := Aside0.mk (IsS63.drew HI0.out)
       have n4_ := Aside0.mk (keep_drew HK.out)
       have n5_ := Aside0.mk (below_drew1 HB.out)
       clear BK124
       clear BK125
       clear BK126
       clear HI0
       clear HK
       clear HB
       have BK124 := n0_
       have BK125 := n1_
       have BK126 := n2_
       have HI0 := n3_
       have HK := n4_
       have HB := n5_
       clear n0_ n1_ n2_ n3_ n4_ n5_
       refine start_ (n := 8) (S := fun w' => w'.cell? ⟨gb126, 0, none⟩ = some (.int .i64 a1_2) ∧ w'.cell? ⟨gb126, 1, none⟩ = some (.string ((⟨#[]⟩ : ByteArray) ++ t129)) ∧ w'.cell? ⟨gb126, 2, none⟩ = some (.bool ((Go.bits .and .i64 a1_1 1) != 0)) ∧ w'.cell? ⟨g, 0, none⟩ = some (.int .i64 s0_0) ∧ w'.cell? ⟨g, 1, none⟩ = some (.int .i64 s0_1) ∧ w'.cell? ⟨g, 2, none⟩ = some (.string s0_2) ∧ w'.cell? ⟨g, 3, none⟩ = some (.bool s0_3)) (ds := []) #[false, false, false, false, false, false, false, false] (by kernel_rfl) rfl rfl ⟨(blk_cell BK126.out 0).trans rfl, (blk_cell BK126.out 1).trans rfl, (blk_cell BK126.out 2).trans rfl, cellS63_0 HI0.out.1, cellS63_1 HI0.out.1, cellS63_2 HI0.out.1, cellS63_3 HI0.out.1⟩ (fun hHeld => ?_); refine with_tabW block_Blocks_take.tab13 block_Blocks_take.bits13 (fun HT_ HW_ => ?_)
       generalize w54.drew = w55 at BK124 BK125 BK126 HI0 HK HB hHeld ⊢
       refine pure_ (i := 0) (N := some 80) (v := ?_) (a' := ?_) #[true, false, false, false, false, false, false, false] rfl rfl (any_of HT_.out (by kernel_rfl)) (fun _ _ _ h => h) (Or.inl ⟨by rfl, ?_⟩) ?_ ?_
       rotate_left
       ·intro w'
        go_simp
        with_reducible rfl
       rotate_left
       ·simp only [Act.put, List.setIfInBounds_toArray, List.set_cons_zero, List.set_cons_succ, i64_w, i32_w]
        rfl
       refine pure_ (i := 3) (N := some 83) (v := ?_) (a' := ?_) #[true, false, false, true, false, false, false, false] rfl rfl (any_of HT_.out (by kernel_rfl)) (fun _ _ _ h => h) (Or.inl ⟨by rfl, ?_⟩) ?_ ?_
       rotate_left
       ·intro w'
        go_simp
        with_reducible rfl
       rotate_left
       ·simp only [Act.put, List.setIfInBounds_toArray, List.set_cons_zero, List.set_cons_succ, i64_w, i32_w]
        rfl
       refine pure_ (i := 4) (N := some 84) (v := ?_) (a' := ?_) #[true, false, false, true, true, false, false, false] rfl rfl (any_of HT_.out (by kernel_rfl)) (fun _ _ _ h => h) (Or.inl ⟨by rfl, ?_⟩) ?_ ?_
       rotate_left
       ·intro w'
        go_simp
        with_reducible rfl
       rotate_left
       ·simp only [Act.put, List.setIfInBounds_toArray, List.set_cons_zero, List.set_cons_succ, i64_w, i32_w]
        rfl
       refine pure_ (i := 5) (N := some 85) (v := ?_) (a' := ?_) #[true, false, false, true, true, true, false, false] rfl rfl (any_of HT_.out (by kernel_rfl)) (fun _ _ _ h => h) (Or.inl ⟨by rfl, ?_⟩) ?_ ?_
       rotate_left
       ·intro w'
        go_simp
        with_reducible rfl
       rotate_left
       ·simp only [Act.put, List.setIfInBounds_toArray, List.set_cons_zero, List.set_cons_succ, i64_w, i32_w]
        rfl
       refine take_ (i := 1) (N := some 81) (v := ?_) (a' := ?_) #[true, true, false, true, true, true, false, false] rfl rfl (take_ofW HT_.out HW_.out (by kernel_rfl)) (fun _ _ _ h => h) (Or.inl ⟨by rfl, ?_⟩) hHeld ?_ ?_
       rotate_left
       ·rintro w' ⟨s0, s1, s2, s3, s4, s5, s6⟩
        go_simp
        with_reducible rfl
       rotate_left
       ·simp only [Act.put, List.setIfInBounds_toArray, List.set_cons_zero, List.set_cons_succ, i64_w, i32_w]
        rfl
       refine pure_ (i := 2) (N := some 82) (v := ?_) (a' := ?_) #[true, true, true, true, true, true, false, false] rfl rfl (any_of HT_.out (by kernel_rfl)) (fun _ _ _ h => h) (Or.inl ⟨by rfl, ?_⟩) ?_ ?_
       rotate_left
       ·intro w'
        go_simp
        with_reducible rfl
       rotate_left
       ·simp only [Act.put, List.setIfInBounds_toArray, List.set_cons_zero, List.set_cons_succ, i64_w, i32_w]
        rfl
       refine take_ (i := 6) (N := some 86) (v := ?_) (a' := ?_) #[true, true, true, true, true, true, true, false] rfl rfl (take_ofW HT_.out HW_.out (by kernel_rfl)) (fun _ _ _ h => h) (Or.inl ⟨by rfl, ?_⟩) hHeld ?_ ?_
       rotate_left
       ·rintro w' ⟨s0, s1, s2, s3, s4, s5, s6⟩
        go_simp
        with_reducible rfl
       rotate_left
       ·simp only [Act.put, List.setIfInBounds_toArray, List.set_cons_zero, List.set_cons_succ, i64_w, i32_w]
        rfl
       refine pure_ (i := 7) (N := some 87) (v := ?_) (a' := ?_) #[true, true, true, true, true, true, true, true] rfl rfl (any_of HT_.out (by kernel_rfl)) (fun _ _ _ h => h) (Or.inl ⟨by rfl, ?_⟩) ?_ ?_
       rotate_left
       ·intro w'
        go_simp
        with_reducible rfl
       rotate_left
       ·simp only [Act.put, List.setIfInBounds_toArray, List.set_cons_zero, List.set_cons_succ, i64_w, i32_w]
        rfl
       refine done_ (done_of HT_.out (by kernel_rfl)) ?_
       try go_wp2
       have n0_ := Aside0.mk (blk_drew BK124.out)
       have n1_ := Aside0.mk (blk_drew BK125.out)
       have n2_ := Aside0.mk (blk_drew BK126.out)
       have n3_ := Aside0.mk (IsS63.drew HI0.out)
       have n4_ := Aside0.mk (keep_drew HK.out)
       have n5_ := Aside0.mk (below_drew1 HB.out)
       clear BK124
       clear BK125
       clear BK126
       clear HI0
       clear HK
       clear HB
       have BK124 := n0_
       have BK125 := n1_
       have BK126 := n2_
       have HI0 := n3_
       have HK := n4_
       have HB := n5_
       clear n0_ n1_ n2_ n3_ n4_ n5_
       refine start_ (n := 8) (S := fun w' => w'.cell? ⟨gb126, 0, none⟩ = some (.int .i64 a1_2) ∧ w'.cell? ⟨gb126, 1, none⟩ = some (.string ((⟨#[]⟩ : ByteArray) ++ t129)) ∧ w'.cell? ⟨gb126, 2, none⟩ = some (.bool ((Go.bits .and .i64 a1_1 1) != 0)) ∧ w'.cell? ⟨gb124, 0, none⟩ = some (.int .i64 a1_0) ∧ w'.cell? ⟨gb124, 1, none⟩ = some (.int .i64 a1_1) ∧ w'.cell? ⟨gb124, 2, none⟩ = some (.int .i64 a1_2) ∧ w'.cell? ⟨gb124, 3, none⟩ = some (.string a1_3)) (ds := []) #[false, false, false, false, false, false, false, false] (by kernel_rfl) rfl rfl ⟨(blk_cell BK126.out 0).trans rfl, (blk_cell BK126.out 1).trans rfl, (blk_cell BK126.out 2).trans rfl, (blk_cell BK124.out 0).trans rfl, (blk_cell BK124.out 1).trans rfl, (blk_cell BK124.out 2).trans rfl, (blk_cell BK124.out 3).trans rfl⟩ (fun hHeld => ?_); refine with_tabW block_Blocks_take.tab15 block_Blocks_take.bits15 (fun HT_ HW_ => ?_)
       generalize w55.drew = w56 at BK124 BK125 BK126 HI0 HK HB hHeld ⊢
       refine pure_ (i := 1) (N := some 90) (v := ?_) (a' := ?_) #[false, true, false, false, false, false, false, false] rfl rfl (any_of HT_.out (by kernel_rfl)) (fun _ _ _ h => h) (Or.inl ⟨by rfl, ?_⟩) ?_ ?_
       rotate_left
       ·intro w'
        go_simp
        with_reducible rfl
       rotate_left
       ·simp only [Act.put, List.setIfInBounds_toArray, List.set_cons_zero, List.set_cons_succ, i64_w, i32_w]
        rfl
       refine take_ (i := 0) (N := some 89) (v := ?_) (a' := ?_) #[true, true, false, false, false, false, false, false] rfl rfl (take_ofW HT_.out HW_.out (by kernel_rfl)) (fun _ _ _ h => h) (Or.inl ⟨by rfl, ?_⟩) hHeld ?_ ?_
       rotate_left
       ·rintro w' ⟨s0, s1, s2, s3, s4, s5, s6⟩
        go_simp
        with_reducible rfl
       rotate_left
       ·simp only [Act.put, List.setIfInBounds_toArray, List.set_cons_zero, List.set_cons_succ, i64_w, i32_w]
        rfl
       refine take_ (i := 2) (N := some 91) (v := ?_) (a' := ?_) #[true, true, true, false, false, false, false, false] rfl rfl (take_ofW HT_.out HW_.out (by kernel_rfl)) (fun _ _ _ h => h) (Or.inl ⟨by rfl, ?_⟩) hHeld ?_ ?_
       rotate_left
       ·rintro w' ⟨s0, s1, s2, s3, s4, s5, s6⟩
        go_simp
        with_reducible rfl
       rotate_left
       ·simp only [Act.put, List.setIfInBounds_toArray, List.set_cons_zero, List.set_cons_succ, i64_w, i32_w]
        rfl
       refine pure_ (i := 3) (N := some 92) (v := ?_) (a' := ?_) #[true, true, true, true, false, false, false, false] rfl rfl (any_of HT_.out (by kernel_rfl)) (fun _ _ _ h => h) (Or.inl ⟨by rfl, ?_⟩) ?_ ?_
       rotate_left
       ·intro w'
        go_simp
        with_reducible rfl
       rotate_left
       ·simp only [Act.put, List.setIfInBounds_toArray, List.set_cons_zero, List.set_cons_succ, i64_w, i32_w]
        rfl
       refine pure_ (i := 4) (N := some 93) (v := ?_) (a' := ?_) #[true, true, true, true, true, false, false, false] rfl rfl (any_of HT_.out (by kernel_rfl)) (fun _ _ _ h => h) (Or.inl ⟨by rfl, ?_⟩) ?_ ?_
       rotate_left
       ·intro w'
        go_simp
        with_reducible rfl
       rotate_left
       ·simp only [Act.put, List.setIfInBounds_toArray, List.set_cons_zero, List.set_cons_succ, i64_w, i32_w]
        rfl
       refine one_ (i := 5) (N := none) #[true, true, true, true, true, true, false, false] rfl rfl (one_of HT_.out (by kernel_rfl)) (by decide) (fun K hK => ?_)
       have hs57 : w56.cell? ⟨gb125, 0, none⟩ = some (.int .i64 0) := (blk_cell BK125.out 0).trans rfl
       have hfs57 := blk_frozen BK125.out 0
       have hns57_0 := NB124_125.out
       have hns57_2 := NB126_125.out
       have hms57_0 := NB125_124.out
       have hms57_2 := NB125_126.out
       have hs58 : w56.cell? ⟨gb125, 1, none⟩ = some (.string (⟨#[]⟩ : ByteArray)) := (blk_cell BK125.out 1).trans rfl
       have hfs58 := blk_frozen BK125.out 1
       have hns58_0 := NB124_125.out
       have hns58_2 := NB126_125.out
       have hms58_0 := NB125_124.out
       have hms58_2 := NB125_126.out
       have hs59 : w56.cell? ⟨gb125, 2, none⟩ = some (.bool false) := (blk_cell BK125.out 2).trans rfl
       have hfs59 := blk_frozen BK125.out 2
       have hns59_0 := NB124_125.out
       have hns59_2 := NB126_125.out
       have hms59_0 := NB125_124.out
       have hms59_2 := NB125_126.out
       refine skip_ (w1 := ?_) (by rfl) rfl ?_ ?_
       rotate_left
       ·go_simp
        rfl
       refine hK.out _ _ ⟨((cell_far (p := ⟨gb125, _, none⟩) NB126_125.out _).trans (((cell_far (p := ⟨gb125, _, none⟩) NB126_125.out _).trans (((cell_far (p := ⟨gb125, _, none⟩) NB126_125.out _).trans (hHeld.1)))))), ((cell_far (p := ⟨gb125, _, none⟩) NB126_125.out _).trans (((cell_far (p := ⟨gb125, _, none⟩) NB126_125.out _).trans (((cell_far (p := ⟨gb125, _, none⟩) NB126_125.out _).trans (hHeld.2.1)))))), ((cell_far (p := ⟨gb125, _, none⟩) NB126_125.out _).trans (((cell_far (p := ⟨gb125, _, none⟩) NB126_125.out _).trans (((cell_far (p := ⟨gb125, _, none⟩) NB126_125.out _).trans (hHeld.2.2.1)))))), ((cell_far (p := ⟨gb125, _, none⟩) NB124_125.out _).trans (((cell_far (p := ⟨gb125, _, none⟩) NB124_125.out _).trans (((cell_far (p := ⟨gb125, _, none⟩) NB124_125.out _).trans (hHeld.2.2.2.1)))))), ((cell_far (p := ⟨gb125, _, none⟩) NB124_125.out _).trans (((cell_far (p := ⟨gb125, _, none⟩) NB124_125.out _).trans (((cell_far (p := ⟨gb125, _, none⟩) NB124_125.out _).trans (hHeld.2.2.2.2.1)))))), ((cell_far (p := ⟨gb125, _, none⟩) NB124_125.out _).trans (((cell_far (p := ⟨gb125, _, none⟩) NB124_125.out _).trans (((cell_far (p := ⟨gb125, _, none⟩) NB124_125.out _).trans (hHeld.2.2.2.2.2.1)))))), ((cell_far (p := ⟨gb125, _, none⟩) NB124_125.out _).trans (((cell_far (p := ⟨gb125, _, none⟩) NB124_125.out _).trans (((cell_far (p := ⟨gb125, _, none⟩) NB124_125.out _).trans (hHeld.2.2.2.2.2.2))))))⟩ (fun hHeld => ?_)
       clear hK K
       refine pure_ (i := 6) (N := some 5) (v := ?_) (a' := ?_) #[true, true, true, true, true, true, true, false] rfl rfl (any_of HT_.out (by kernel_rfl)) (fun _ _ _ h => h) (Or.inl ⟨by rfl, ?_⟩) ?_ ?_
       rotate_left
       ·intro w'
        go_simp
        with_reducible rfl
       rotate_left
       ·simp only [Act.put, List.setIfInBounds_toArray, List.set_cons_zero, List.set_cons_succ, i64_w, i32_w]
        rfl
       refine pure_ (i := 7) (N := some 6) (v := ?_) (a' := ?_) #[true, true, true, true, true, true, true, true] rfl rfl (any_of HT_.out (by kernel_rfl)) (fun _ _ _ h => h) (Or.inl ⟨by rfl, ?_⟩) ?_ ?_
       rotate_left
       ·intro w'
        go_simp
        with_reducible rfl
       rotate_left
       ·simp only [Act.put, List.setIfInBounds_toArray, List.set_cons_zero, List.set_cons_succ, i64_w, i32_w]
        rfl
       refine done_ (done_of HT_.out (by kernel_rfl)) ?_
       try go_wp2
       refine bodyPost_ret (results_ctt rfl _ _ gb125 41 #[.int .i64 a1_2, .string ((⟨#[]⟩ : ByteArray) ++ t129), .bool ((Go.bits .and .i64 a1_1 1) != 0)] (0, 0) _ rfl (by (with_reducible repeat (first | refine blk_drewN ?_ _ | refine blk_drew ?_ | refine blk_alloc ?_ _)); refine blk_put (cs := #[.int .i64 a1_2, .string ((⟨#[]⟩ : ByteArray) ++ t129), .bool false]) ?_ 2 _ rfl; (with_reducible repeat (first | refine blk_drewN ?_ _ | refine blk_drew ?_ | refine blk_alloc ?_ _)); refine blk_put (cs := #[.int .i64 a1_2, .string (⟨#[]⟩ : ByteArray), .bool false]) ?_ 1 _ rfl; (with_reducible repeat (first | refine blk_drewN ?_ _ | refine blk_drew ?_ | refine blk_alloc ?_ _)); refine blk_put (cs := #[.int .i64 0, .string (⟨#[]⟩ : ByteArray), .bool false]) ?_ 0 _ rfl; (with_reducible repeat (first | refine blk_drewN ?_ _ | refine blk_drew ?_ | refine blk_alloc ?_ _)); exact BK125.out) Try.underlying41 rfl (by kernel_rfl)) rfl ?_
       exact ⟨by first | rfl | (simp [errW_none, errW_some] <;> rfl) | (simp [*, errW_none, errW_some] <;> rfl), by repeat (first | (with_reducible first | exact HI0.out | apply IsS63.alloc | apply IsS63.drewN | apply IsS63.drew | apply IsS63.set_0 | apply IsS63.set_1 | apply IsS63.set_2 | apply IsS63.set_3 | refine IsS63.far ?_ NB0_124.out _ | apply IsS63.far (hne := NB0_124.out) | refine IsS63.far ?_ NB0_125.out _ | apply IsS63.far (hne := NB0_125.out) | refine IsS63.far ?_ NB0_126.out _ | apply IsS63.far (hne := NB0_126.out)) | exact HI0.out), by repeat (first | (with_reducible first | exact HB.out | apply below_alloc | apply pw_below_drewN | apply below_drew1 | refine below_set ?_ (IsS63.ge HI0.out) | refine below_set ?_ GE124.out | refine below_set ?_ GE125.out | refine below_set ?_ GE126.out) | exact HB.out), by repeat (first | (with_reducible first | exact HK.out | apply KeepBut.set_ | apply keep_drewN | apply keep_drew | apply keep_alloc | refine keep_far ?_ GW124.out _ | refine keep_far ?_ GW125.out _ | refine keep_far ?_ GW126.out _) | exact HK.out)⟩
     ·rw [if_neg c34] at H
      exact absurd H (by simp)
    ·replace c33 := Bool.eq_false_iff.mpr c33
     subst c33
     have H1 : (if s0_1 = 0 then (block_Blocks_take.j1 kj5 t129 (a1_0 != 9) s0_0 s0_1 s0_2 s0_3 a1_0 a1_1 a1_2 a1_3 s0_1 s0_2 s0_3) else (block_Blocks_take.j1 kj5 t129 false s0_0 s0_1 s0_2 s0_3 a1_0 a1_1 a1_2 a1_3 s0_1 s0_2 s0_3)) = some (r1, r2, r3, r4, r5, r6, r7, r8, r9) := by rw [if_neg (show ¬ (false = true) by decide)] at H; exact H
     clear H
     have H := H1
     clear H1
     have HC60 := Aside0.mk H
     clear H
     go_upto_region 8 with (fail)
     go_cut [48] (fun v48 wc => ∃ (kq : Nat) (x48_59 : Bool), v48 = .bool x48_59 ∧ Aside0 (block_Blocks_take.j1 kq t129 x48_59 s0_0 s0_1 s0_2 s0_3 a1_0 a1_1 a1_2 a1_3 s0_1 s0_2 s0_3 = some (r1, r2, r3, r4, r5, r6, r7, r8, r9)) ∧ Aside0 (kq ≤ kj5) ∧ Aside0 (wc.heap[gb124]? = some (.cells #[.int .i64 a1_0, .int .i64 a1_1, .int .i64 a1_2, .string a1_3] 39 (0, 0))) ∧ Aside0 (wc.heap[gb125]? = some (.cells #[.int .i64 0, .string (⟨#[]⟩ : ByteArray), .bool false] 41 (0, 0))) ∧ Aside0 (wc.heap[gb126]? = some (.cells #[.int .i64 s0_1, .string s0_2, .bool s0_3] 41 (0, 0))) ∧ Aside0 (IsS63 w0 wc g s0_0 s0_1 s0_2 s0_3) ∧ Aside0 (KeepBut w wc g none) ∧ Aside0 (Below w0.heap.size w0 wc))
     case first =>
      have H := HC60.out
      clear HC60
      by_cases c61 : s0_1 = 0
      ·rw [if_pos c61] at H
       have c61b0 : (s0_1 == 0) = true := beq_iff_eq.mpr c61
       have c61b1 : (s0_1 != 0) = false := bne_eq_false_iff_eq.mpr c61
       clear c61
       (first | rw [c61b0] | (simp only [i64_w, i32_w]; rw [c61b0]) | skip)
       have H' := Aside0.mk H
       clear H
       have hnb62 := NB126_124.out
       have hnc62 := NB124_126.out
       have hnb63 := NB126_125.out
       have hnc63 := NB125_126.out
       have hnb64 := NB126_0.out
       have hnc64 := NB0_126.out
       have hcz65_0 : wc.cell? ⟨gb126, 0, none⟩ = some (.int .i64 s0_1) := (blk_cell BK126.out 0).trans rfl
       have hcz65_1 : wc.cell? ⟨gb126, 1, none⟩ = some (.string s0_2) := (blk_cell BK126.out 1).trans rfl
       have hcz65_2 : wc.cell? ⟨gb126, 2, none⟩ = some (.bool s0_3) := (blk_cell BK126.out 2).trans rfl
       have hfz65_0 := blk_frozen BK126.out 0
       have hfz65_1 := blk_frozen BK126.out 1
       have hfz65_2 := blk_frozen BK126.out 2
       have hnb66 := NB124_125.out
       have hnc66 := NB125_124.out
       have hnb67 := NB124_0.out
       have hnc67 := NB0_124.out
       have hcz68_0 : wc.cell? ⟨gb124, 0, none⟩ = some (.int .i64 a1_0) := (blk_cell BK124.out 0).trans rfl
       have hcz68_1 : wc.cell? ⟨gb124, 1, none⟩ = some (.int .i64 a1_1) := (blk_cell BK124.out 1).trans rfl
       have hcz68_2 : wc.cell? ⟨gb124, 2, none⟩ = some (.int .i64 a1_2) := (blk_cell BK124.out 2).trans rfl
       have hcz68_3 : wc.cell? ⟨gb124, 3, none⟩ = some (.string a1_3) := (blk_cell BK124.out 3).trans rfl
       have hfz68_0 := blk_frozen BK124.out 0
       have hfz68_1 := blk_frozen BK124.out 1
       have hfz68_2 := blk_frozen BK124.out 2
       have hfz68_3 := blk_frozen BK124.out 3
       go_wp2
       go_meet
       case rel => exact ⟨_, ((a1_0 != 9)), (by first | rfl | (simp; done) | (simp [*]; done)), H', ⟨by have := HJ5.out; first | omega | exact Nat.le_refl _⟩, ⟨by (with_reducible repeat (first | refine blk_drewN ?_ _ | refine blk_drew ?_ | refine blk_alloc ?_ _)); exact BK124.out⟩, ⟨by (with_reducible repeat (first | refine blk_drewN ?_ _ | refine blk_drew ?_ | refine blk_alloc ?_ _)); exact BK125.out⟩, ⟨by (with_reducible repeat (first | refine blk_drewN ?_ _ | refine blk_drew ?_ | refine blk_alloc ?_ _)); exact BK126.out⟩, ⟨by repeat (first | (with_reducible first | exact HI0.out | apply IsS63.alloc | apply IsS63.drewN | apply IsS63.drew | apply IsS63.set_0 | apply IsS63.set_1 | apply IsS63.set_2 | apply IsS63.set_3 | refine IsS63.far ?_ NB0_124.out _ | apply IsS63.far (hne := NB0_124.out) | refine IsS63.far ?_ NB0_125.out _ | apply IsS63.far (hne := NB0_125.out) | refine IsS63.far ?_ NB0_126.out _ | apply IsS63.far (hne := NB0_126.out)) | exact HI0.out)⟩, ⟨by repeat (first | (with_reducible first | exact HK.out | apply KeepBut.set_ | apply keep_drewN | apply keep_drew | apply keep_alloc | refine keep_far ?_ GW124.out _ | refine keep_far ?_ GW125.out _ | refine keep_far ?_ GW126.out _) | exact HK.out)⟩, ⟨by repeat (first | (with_reducible first | exact HB.out | apply below_alloc | apply pw_below_drewN | apply below_drew1 | refine below_set ?_ (IsS63.ge HI0.out) | refine below_set ?_ GE124.out | refine below_set ?_ GE125.out | refine below_set ?_ GE126.out) | exact HB.out)⟩⟩
      ·rw [if_neg c61] at H
       have c61b0 : (s0_1 == 0) = false := beq_eq_false_iff_ne.mpr c61
       have c61b1 : (s0_1 != 0) = true := bne_iff_ne.mpr c61
       (first | rw [c61b0] | (simp only [i64_w, i32_w]; rw [c61b0]) | skip)
       have H' := Aside0.mk H
       clear H
       have hnb69 := NB126_124.out
       have hnc69 := NB124_126.out
       have hnb70 := NB126_125.out
       have hnc70 := NB125_126.out
       have hnb71 := NB126_0.out
       have hnc71 := NB0_126.out
       have hcz72_0 : wc.cell? ⟨gb126, 0, none⟩ = some (.int .i64 s0_1) := (blk_cell BK126.out 0).trans rfl
       have hcz72_1 : wc.cell? ⟨gb126, 1, none⟩ = some (.string s0_2) := (blk_cell BK126.out 1).trans rfl
       have hcz72_2 : wc.cell? ⟨gb126, 2, none⟩ = some (.bool s0_3) := (blk_cell BK126.out 2).trans rfl
       have hfz72_0 := blk_frozen BK126.out 0
       have hfz72_1 := blk_frozen BK126.out 1
       have hfz72_2 := blk_frozen BK126.out 2
       go_wp2
       go_meet
       case rel => exact ⟨_, (false), (by first | rfl | (simp; done) | (simp [*]; done)), H', ⟨by have := HJ5.out; first | omega | exact Nat.le_refl _⟩, ⟨by (with_reducible repeat (first | refine blk_drewN ?_ _ | refine blk_drew ?_ | refine blk_alloc ?_ _)); exact BK124.out⟩, ⟨by (with_reducible repeat (first | refine blk_drewN ?_ _ | refine blk_drew ?_ | refine blk_alloc ?_ _)); exact BK125.out⟩, ⟨by (with_reducible repeat (first | refine blk_drewN ?_ _ | refine blk_drew ?_ | refine blk_alloc ?_ _)); exact BK126.out⟩, ⟨by repeat (first | (with_reducible first | exact HI0.out | apply IsS63.alloc | apply IsS63.drewN | apply IsS63.drew | apply IsS63.set_0 | apply IsS63.set_1 | apply IsS63.set_2 | apply IsS63.set_3 | refine IsS63.far ?_ NB0_124.out _ | apply IsS63.far (hne := NB0_124.out) | refine IsS63.far ?_ NB0_125.out _ | apply IsS63.far (hne := NB0_125.out) | refine IsS63.far ?_ NB0_126.out _ | apply IsS63.far (hne := NB0_126.out)) | exact HI0.out)⟩, ⟨by repeat (first | (with_reducible first | exact HK.out | apply KeepBut.set_ | apply keep_drewN | apply keep_drew | apply keep_alloc | refine keep_far ?_ GW124.out _ | refine keep_far ?_ GW125.out _ | refine keep_far ?_ GW126.out _) | exact HK.out)⟩, ⟨by repeat (first | (with_reducible first | exact HB.out | apply below_alloc | apply pw_below_drewN | apply below_drew1 | refine below_set ?_ (IsS63.ge HI0.out) | refine below_set ?_ GE124.out | refine below_set ?_ GE125.out | refine below_set ?_ GE126.out) | exact HB.out)⟩⟩
     case rest =>
      clear HC60
      try clear c1
      try clear c2
      try clear p2
      try clear c3
      try clear c4
      try clear c5
      try clear c5b0
      try clear c5b1
      try clear c6
      try clear c7
      try clear c11
      try clear c12
      try clear c13
      try clear c15
      try clear c16
      try clear c21
      try clear c21b0
      try clear c21b1
      try clear c22
      try clear c23
      try clear c24
      try clear c26
      try clear c27
      try clear c29
      try clear c30
      try clear c31
      try clear c33
      try clear c34
      try clear c34b0
      try clear c34b1
      try clear c34b2
      try clear c35
      try clear c35b0
      try clear c36
      try clear c37
      try clear c38
      try clear c40
      try clear c41
      try clear c45
      try clear c47
      try clear c48
      try clear c49
      try clear c51
      try clear c52
      try clear c61
      try clear c61b0
      try clear c61b1
      try clear c62
      try clear c63
      try clear c64
      try clear c66
      try clear c67
      try clear c69
      try clear c70
      try clear c71
      try clear hcz14_0
      try clear hcz14_1
      try clear hcz14_2
      try clear hcz17_0
      try clear hcz17_1
      try clear hcz17_2
      try clear hcz17_3
      try clear hcz19_0
      try clear hcz19_1
      try clear hcz19_2
      try clear hcz19_3
      try clear hcz25_0
      try clear hcz25_1
      try clear hcz25_2
      try clear hcz28_0
      try clear hcz28_1
      try clear hcz28_2
      try clear hcz28_3
      try clear hcz32_0
      try clear hcz32_1
      try clear hcz32_2
      try clear hcz39_0
      try clear hcz39_1
      try clear hcz39_2
      try clear hcz39_3
      try clear hcz42_0
      try clear hcz42_1
      try clear hcz42_2
      try clear hcz46_0
      try clear hcz46_1
      try clear hcz46_2
      try clear hcz50_0
      try clear hcz50_1
      try clear hcz50_2
      try clear hcz50_3
      try clear hcz53_0
      try clear hcz53_1
      try clear hcz53_2
      try clear hcz65_0
      try clear hcz65_1
      try clear hcz65_2
      try clear hcz68_0
      try clear hcz68_1
      try clear hcz68_2
      try clear hcz68_3
      try clear hcz72_0
      try clear hcz72_1
      try clear hcz72_2
      try clear hcz9_0
      try clear hcz9_1
      try clear hcz9_2
      try clear hcz9_3
      try clear hfz14_0
      try clear hfz14_1
      try clear hfz14_2
      try clear hfz17_0
      try clear hfz17_1
      try clear hfz17_2
      try clear hfz17_3
      try clear hfz19_0
      try clear hfz19_1
      try clear hfz19_2
      try clear hfz19_3
      try clear hfz25_0
      try clear hfz25_1
      try clear hfz25_2
      try clear hfz28_0
      try clear hfz28_1
      try clear hfz28_2
      try clear hfz28_3
      try clear hfz32_0
      try clear hfz32_1
      try clear hfz32_2
      try clear hfz39_0
      try clear hfz39_1
      try clear hfz39_2
      try clear hfz39_3
      try clear hfz42_0
      try clear hfz42_1
      try clear hfz42_2
      try clear hfz46_0
      try clear hfz46_1
      try clear hfz46_2
      try clear hfz50_0
      try clear hfz50_1
      try clear hfz50_2
      try clear hfz50_3
      try clear hfz53_0
      try clear hfz53_1
      try clear hfz53_2
      try clear hfz65_0
      try clear hfz65_1
      try clear hfz65_2
      try clear hfz68_0
      try clear hfz68_1
      try clear hfz68_2
      try clear hfz68_3
      try clear hfz72_0
      try clear hfz72_1
      try clear hfz72_2
      try clear hfz9_0
      try clear hfz9_1
      try clear hfz9_2
      try clear hfz9_3
      try clear p2
      obtain ⟨kq, x48_59, rfl, HA, HJ59, BK124, BK125, BK126, HI0, HK, HB⟩ := hcut
      cases kq with
      | zero => exact absurd HA.out (by simp [block_Blocks_take.j1])
      | succ kj59 =>
       have H := HA.out
       clear HA
       simp only [block_Blocks_take.j1] at H
       by_cases c73 : x48_59 = true
       ·subst c73
        have H1 : (some (0, (⟨#[]⟩ : ByteArray), false, false, 0, s0_0, s0_1, s0_2, s0_3)) = some (r1, r2, r3, r4, r5, r6, r7, r8, r9) := by rw [if_pos rfl] at H; exact H
        clear H
        have H := H1
        clear H1
        simp only [Option.some.injEq, Prod.mk.injEq] at H
        obtain ⟨rfl, rfl, rfl, rfl, rfl, rfl, rfl, rfl, rfl⟩ := H
        have hnb74 := NB125_124.out
        have hnc74 := NB124_125.out
        have hnb75 := NB125_126.out
        have hnc75 := NB126_125.out
        have hnb76 := NB125_0.out
        have hnc76 := NB0_125.out
        have hcz77_0 : wc.cell? ⟨gb125, 0, none⟩ = some (.int .i64 0) := (blk_cell BK125.out 0).trans rfl
        have hcz77_1 : wc.cell? ⟨gb125, 1, none⟩ = some (.string (⟨#[]⟩ : ByteArray)) := (blk_cell BK125.out 1).trans rfl
        have hcz77_2 : wc.cell? ⟨gb125, 2, none⟩ = some (.bool false) := (blk_cell BK125.out 2).trans rfl
        have hfz77_0 := blk_frozen BK125.out 0
        have hfz77_1 := blk_frozen BK125.out 1
        have hfz77_2 := blk_frozen BK125.out 2
        go_wp2
        refine bodyPost_ret (results_ctt rfl _ _ gb125 41 #[.int .i64 0, .string (⟨#[]⟩ : ByteArray), .bool false] (0, 0) _ rfl (by (with_reducible repeat (first | refine blk_drewN ?_ _ | refine blk_drew ?_ | refine blk_alloc ?_ _)); refine blk_put (cs := #[.int .i64 0, .string (⟨#[]⟩ : ByteArray), .bool false]) ?_ 2 _ rfl; (with_reducible repeat (first | refine blk_drewN ?_ _ | refine blk_drew ?_ | refine blk_alloc ?_ _)); refine blk_put (cs := #[.int .i64 0, .string (⟨#[]⟩ : ByteArray), .bool false]) ?_ 1 _ rfl; (with_reducible repeat (first | refine blk_drewN ?_ _ | refine blk_drew ?_ | refine blk_alloc ?_ _)); refine blk_put (cs := #[.int .i64 0, .string (⟨#[]⟩ : ByteArray), .bool false]) ?_ 0 _ rfl; (with_reducible repeat (first | refine blk_drewN ?_ _ | refine blk_drew ?_ | refine blk_alloc ?_ _)); exact BK125.out) Try.underlying41 rfl (by kernel_rfl)) rfl ?_
        exact ⟨by first | rfl | (simp [errW_none, errW_some] <;> rfl) | (simp [*, errW_none, errW_some] <;> rfl), by repeat (first | (with_reducible first | exact HI0.out | apply IsS63.alloc | apply IsS63.drewN | apply IsS63.drew | apply IsS63.set_0 | apply IsS63.set_1 | apply IsS63.set_2 | apply IsS63.set_3 | refine IsS63.far ?_ NB0_124.out _ | apply IsS63.far (hne := NB0_124.out) | refine IsS63.far ?_ NB0_125.out _ | apply IsS63.far (hne := NB0_125.out) | refine IsS63.far ?_ NB0_126.out _ | apply IsS63.far (hne := NB0_126.out)) | exact HI0.out), by repeat (first | (with_reducible first | exact HB.out | apply below_alloc | apply pw_below_drewN | apply below_drew1 | refine below_set ?_ (IsS63.ge HI0.out) | refine below_set ?_ GE124.out | refine below_set ?_ GE125.out | refine below_set ?_ GE126.out) | exact HB.out), by repeat (first | (with_reducible first | exact HK.out | apply KeepBut.set_ | apply keep_drewN | apply keep_drew | apply keep_alloc | refine keep_far ?_ GW124.out _ | refine keep_far ?_ GW125.out _ | refine keep_far ?_ GW126.out _) | exact HK.out)⟩
       ·replace c73 := Bool.eq_false_iff.mpr c73
        subst c73
        have H1 : (if s0_1 = 0 then (block_Blocks_take.j2 kj59 t129 true s0_0 s0_1 s0_2 s0_3 a1_0 a1_1 a1_2 a1_3 s0_1 s0_2 s0_3) else (if a1_0 = 9 then (block_Blocks_take.j2 kj59 t129 (a1_2 != s0_1) s0_0 s0_1 s0_2 s0_3 a1_0 a1_1 a1_2 a1_3 s0_1 s0_2 s0_3) else (block_Blocks_take.j2 kj59 t129 true s0_0 s0_1 s0_2 s0_3 a1_0 a1_1 a1_2 a1_3 s0_1 s0_2 s0_3))) = some (r1, r2, r3, r4, r5, r6, r7, r8, r9) := by rw [if_neg (show ¬ (false = true) by decide)] at H; exact H
        clear H
        have H := H1
        clear H1
        have HC78 := Aside0.mk H
        clear H
        go_upto_region 10 with (fail)
        go_cut [58] (fun v58 wc => ∃ (kq : Nat) (x58_77 : Bool), v58 = .bool x58_77 ∧ Aside0 (block_Blocks_take.j2 kq t129 x58_77 s0_0 s0_1 s0_2 s0_3 a1_0 a1_1 a1_2 a1_3 s0_1 s0_2 s0_3 = some (r1, r2, r3, r4, r5, r6, r7, r8, r9)) ∧ Aside0 (kq ≤ kj59) ∧ Aside0 (wc.heap[gb124]? = some (.cells #[.int .i64 a1_0, .int .i64 a1_1, .int .i64 a1_2, .string a1_3] 39 (0, 0))) ∧ Aside0 (wc.heap[gb125]? = some (.cells #[.int .i64 0, .string (⟨#[]⟩ : ByteArray), .bool false] 41 (0, 0))) ∧ Aside0 (wc.heap[gb126]? = some (.cells #[.int .i64 s0_1, .string s0_2, .bool s0_3] 41 (0, 0))) ∧ Aside0 (IsS63 w0 wc g s0_0 s0_1 s0_2 s0_3) ∧ Aside0 (KeepBut w wc g none) ∧ Aside0 (Below w0.heap.size w0 wc))
        case first =>
         have H := HC78.out
         clear HC78
         by_cases c79 : s0_1 = 0
         ·rw [if_pos c79] at H
          have c79b0 : (s0_1 == 0) = true := beq_iff_eq.mpr c79
          have c79b1 : (s0_1 != 0) = false := bne_eq_false_iff_eq.mpr c79
          clear c79
          (first | rw [c79b0] | (simp only [i64_w, i32_w]; rw [c79b0]) | skip)
          have H' := Aside0.mk H
          clear H
          have hnb80 := NB126_124.out
          have hnc80 := NB124_126.out
          have hnb81 := NB126_125.out
          have hnc81 := NB125_126.out
          have hnb82 := NB126_0.out
          have hnc82 := NB0_126.out
          have hcz83_0 : wc.cell? ⟨gb126, 0, none⟩ = some (.int .i64 s0_1) := (blk_cell BK126.out 0).trans rfl
          have hcz83_1 : wc.cell? ⟨gb126, 1, none⟩ = some (.string s0_2) := (blk_cell BK126.out 1).trans rfl
          have hcz83_2 : wc.cell? ⟨gb126, 2, none⟩ = some (.bool s0_3) := (blk_cell BK126.out 2).trans rfl
          have hfz83_0 := blk_frozen BK126.out 0
          have hfz83_1 := blk_frozen BK126.out 1
          have hfz83_2 := blk_frozen BK126.out 2
          go_wp2
          go_meet
          case rel => exact ⟨_, (true), (by first | rfl | (simp; done) | (simp [*]; done)), H', ⟨by have := HJ5.out; have := HJ59.out; first | omega | exact Nat.le_refl _⟩, ⟨by (with_reducible repeat (first | refine blk_drewN ?_ _ | refine blk_drew ?_ | refine blk_alloc ?_ _)); exact BK124.out⟩, ⟨by (with_reducible repeat (first | refine blk_drewN ?_ _ | refine blk_drew ?_ | refine blk_alloc ?_ _)); exact BK125.out⟩, ⟨by (with_reducible repeat (first | refine blk_drewN ?_ _ | refine blk_drew ?_ | refine blk_alloc ?_ _)); exact BK126.out⟩, ⟨by repeat (first | (with_reducible first | exact HI0.out | apply IsS63.alloc | apply IsS63.drewN | apply IsS63.drew | apply IsS63.set_0 | apply IsS63.set_1 | apply IsS63.set_2 | apply IsS63.set_3 | refine IsS63.far ?_ NB0_124.out _ | apply IsS63.far (hne := NB0_124.out) | refine IsS63.far ?_ NB0_125.out _ | apply IsS63.far (hne := NB0_125.out) | refine IsS63.far ?_ NB0_126.out _ | apply IsS63.far (hne := NB0_126.out)) | exact HI0.out)⟩, ⟨by repeat (first | (with_reducible first | exact HK.out | apply KeepBut.set_ | apply keep_drewN | apply keep_drew | apply keep_alloc | refine keep_far ?_ GW124.out _ | refine keep_far ?_ GW125.out _ | refine keep_far ?_ GW126.out _) | exact HK.out)⟩, ⟨by repeat (first | (with_reducible first | exact HB.out | apply below_alloc | apply pw_below_drewN | apply below_drew1 | refine below_set ?_ (IsS63.ge HI0.out) | refine below_set ?_ GE124.out | refine below_set ?_ GE125.out | refine below_set ?_ GE126.out) | exact HB.out)⟩⟩
         ·rw [if_neg c79] at H
          have c79b0 : (s0_1 == 0) = false := beq_eq_false_iff_ne.mpr c79
          have c79b1 : (s0_1 != 0) = true := bne_iff_ne.mpr c79
          (first | rw [c79b0] | (simp only [i64_w, i32_w]; rw [c79b0]) | skip)
          by_cases c84 : a1_0 = 9
          ·rw [if_pos c84] at H
           have c84b0 : (a1_0 == 9) = true := beq_iff_eq.mpr c84
           have c84b1 : (a1_0 != 9) = false := bne_eq_false_iff_eq.mpr c84
           clear c84
           have H' := Aside0.mk H
           clear H
           have hnb85 := NB126_124.out
           have hnc85 := NB124_126.out
           have hnb86 := NB126_125.out
           have hnc86 := NB125_126.out
           have hnb87 := NB126_0.out
           have hnc87 := NB0_126.out
           have hcz88_0 : wc.cell? ⟨gb126, 0, none⟩ = some (.int .i64 s0_1) := (blk_cell BK126.out 0).trans rfl
           have hcz88_1 : wc.cell? ⟨gb126, 1, none⟩ = some (.string s0_2) := (blk_cell BK126.out 1).trans rfl
           have hcz88_2 : wc.cell? ⟨gb126, 2, none⟩ = some (.bool s0_3) := (blk_cell BK126.out 2).trans rfl
           have hfz88_0 := blk_frozen BK126.out 0
           have hfz88_1 := blk_frozen BK126.out 1
           have hfz88_2 := blk_frozen BK126.out 2
           have hnb89 := NB124_125.out
           have hnc89 := NB125_124.out
           have hnb90 := NB124_0.out
           have hnc90 := NB0_124.out
           have hcz91_0 : wc.cell? ⟨gb124, 0, none⟩ = some (.int .i64 a1_0) := (blk_cell BK124.out 0).trans rfl
           have hcz91_1 : wc.cell? ⟨gb124, 1, none⟩ = some (.int .i64 a1_1) := (blk_cell BK124.out 1).trans rfl
           have hcz91_2 : wc.cell? ⟨gb124, 2, none⟩ = some (.int .i64 a1_2) := (blk_cell BK124.out 2).trans rfl
           have hcz91_3 : wc.cell? ⟨gb124, 3, none⟩ = some (.string a1_3) := (blk_cell BK124.out 3).trans rfl
           have hfz91_0 := blk_frozen BK124.out 0
           have hfz91_1 := blk_frozen BK124.out 1
           have hfz91_2 := blk_frozen BK124.out 2
           have hfz91_3 := blk_frozen BK124.out 3
           go_wp2
           go_meet
           case rel => exact ⟨_, ((a1_2 != s0_1)), (by first | rfl | (simp; done) | (simp [*]; done)), H', ⟨by have := HJ5.out; have := HJ59.out; first | omega | exact Nat.le_refl _⟩, ⟨by (with_reducible repeat (first | refine blk_drewN ?_ _ | refine blk_drew ?_ | refine blk_alloc ?_ _)); exact BK124.out⟩, ⟨by (with_reducible repeat (first | refine blk_drewN ?_ _ | refine blk_drew ?_ | refine blk_alloc ?_ _)); exact BK125.out⟩, ⟨by (with_reducible repeat (first | refine blk_drewN ?_ _ | refine blk_drew ?_ | refine blk_alloc ?_ _)); exact BK126.out⟩, ⟨by repeat (first | (with_reducible first | exact HI0.out | apply IsS63.alloc | apply IsS63.drewN | apply IsS63.drew | apply IsS63.set_0 | apply IsS63.set_1 | apply IsS63.set_2 | apply IsS63.set_3 | refine IsS63.far ?_ NB0_124.out _ | apply IsS63.far (hne := NB0_124.out) | refine IsS63.far ?_ NB0_125.out _ | apply IsS63.far (hne := NB0_125.out) | refine IsS63.far ?_ NB0_126.out _ | apply IsS63.far (hne := NB0_126.out)) | exact HI0.out)⟩, ⟨by repeat (first | (with_reducible first | exact HK.out | apply KeepBut.set_ | apply keep_drewN | apply keep_drew | apply keep_alloc | refine keep_far ?_ GW124.out _ | refine keep_far ?_ GW125.out _ | refine keep_far ?_ GW126.out _) | exact HK.out)⟩, ⟨by repeat (first | (with_reducible first | exact HB.out | apply below_alloc | apply pw_below_drewN | apply below_drew1 | refine below_set ?_ (IsS63.ge HI0.out) | refine below_set ?_ GE124.out | refine below_set ?_ GE125.out | refine below_set ?_ GE126.out) | exact HB.out)⟩⟩
          ·rw [if_neg c84] at H
           have c84b0 : (a1_0 == 9) = false := beq_eq_false_iff_ne.mpr c84
           have c84b1 : (a1_0 != 9) = true := bne_iff_ne.mpr c84
           have H' := Aside0.mk H
           clear H
           have hnb92 := NB126_124.out
           have hnc92 := NB124_126.out
           have hnb93 := NB126_125.out
           have hnc93 := NB125_126.out
           have hnb94 := NB126_0.out
           have hnc94 := NB0_126.out
           have hcz95_0 : wc.cell? ⟨gb126, 0, none⟩ = some (.int .i64 s0_1) := (blk_cell BK126.out 0).trans rfl
           have hcz95_1 : wc.cell? ⟨gb126, 1, none⟩ = some (.string s0_2) := (blk_cell BK126.out 1).trans rfl
           have hcz95_2 : wc.cell? ⟨gb126, 2, none⟩ = some (.bool s0_3) := (blk_cell BK126.out 2).trans rfl
           have hfz95_0 := blk_frozen BK126.out 0
           have hfz95_1 := blk_frozen BK126.out 1
           have hfz95_2 := blk_frozen BK126.out 2
           have hnb96 := NB124_125.out
           have hnc96 := NB125_124.out
           have hnb97 := NB124_0.out
           have hnc97 := NB0_124.out
           have hcz98_0 : wc.cell? ⟨gb124, 0, none⟩ = some (.int .i64 a1_0) := (blk_cell BK124.out 0).trans rfl
           have hcz98_1 : wc.cell? ⟨gb124, 1, none⟩ = some (.int .i64 a1_1) := (blk_cell BK124.out 1).trans rfl
           have hcz98_2 : wc.cell? ⟨gb124, 2, none⟩ = some (.int .i64 a1_2) := (blk_cell BK124.out 2).trans rfl
           have hcz98_3 : wc.cell? ⟨gb124, 3, none⟩ = some (.string a1_3) := (blk_cell BK124.out 3).trans rfl
           have hfz98_0 := blk_frozen BK124.out 0
           have hfz98_1 := blk_frozen BK124.out 1
           have hfz98_2 := blk_frozen BK124.out 2
           have hfz98_3 := blk_frozen BK124.out 3
           go_wp2
           go_meet
           case rel => exact ⟨_, (true), (by first | rfl | (simp; done) | (simp [*]; done)), H', ⟨by have := HJ5.out; have := HJ59.out; first | omega | exact Nat.le_refl _⟩, ⟨by (with_reducible repeat (first | refine blk_drewN ?_ _ | refine blk_drew ?_ | refine blk_alloc ?_ _)); exact BK124.out⟩, ⟨by (with_reducible repeat (first | refine blk_drewN ?_ _ | refine blk_drew ?_ | refine blk_alloc ?_ _)); exact BK125.out⟩, ⟨by (with_reducible repeat (first | refine blk_drewN ?_ _ | refine blk_drew ?_ | refine blk_alloc ?_ _)); exact BK126.out⟩, ⟨by repeat (first | (with_reducible first | exact HI0.out | apply IsS63.alloc | apply IsS63.drewN | apply IsS63.drew | apply IsS63.set_0 | apply IsS63.set_1 | apply IsS63.set_2 | apply IsS63.set_3 | refine IsS63.far ?_ NB0_124.out _ | apply IsS63.far (hne := NB0_124.out) | refine IsS63.far ?_ NB0_125.out _ | apply IsS63.far (hne := NB0_125.out) | refine IsS63.far ?_ NB0_126.out _ | apply IsS63.far (hne := NB0_126.out)) | exact HI0.out)⟩, ⟨by repeat (first | (with_reducible first | exact HK.out | apply KeepBut.set_ | apply keep_drewN | apply keep_drew | apply keep_alloc | refine keep_far ?_ GW124.out _ | refine keep_far ?_ GW125.out _ | refine keep_far ?_ GW126.out _) | exact HK.out)⟩, ⟨by repeat (first | (with_reducible first | exact HB.out | apply below_alloc | apply pw_below_drewN | apply below_drew1 | refine below_set ?_ (IsS63.ge HI0.out) | refine below_set ?_ GE124.out | refine below_set ?_ GE125.out | refine below_set ?_ GE126.out) | exact HB.out)⟩⟩
        case rest =>
         clear HC78
         try clear c1
         try clear c2
         try clear p2
         try clear c3
         try clear c4
         try clear c5
         try clear c5b0
         try clear c5b1
         try clear c6
         try clear c7
         try clear c8
         try clear c9
         try clear c11
         try clear c12
         try clear c13
         try clear c15
         try clear c16
         try clear c21
         try clear c21b0
         try clear c21b1
         try clear c22
         try clear c23
         try clear c24
         try clear c26
         try clear c27
         try clear c29
         try clear c30
         try clear c31
         try clear c33
         try clear c34
         try clear c34b0
         try clear c34b1
         try clear c34b2
         try clear c35
         try clear c35b0
         try clear c36
         try clear c37
         try clear c38
         try clear c40
         try clear c41
         try clear c45
         try clear c47
         try clear c48
         try clear c49
         try clear c51
         try clear c52
         try clear c61
         try clear c61b0
         try clear c61b1
         try clear c62
         try clear c63
         try clear c64
         try clear c66
         try clear c67
         try clear c69
         try clear c70
         try clear c71
         try clear c73
         try clear c74
         try clear c75
         try clear c76
         try clear c79
         try clear c79b0
         try clear c79b1
         try clear c80
         try clear c81
         try clear c82
         try clear c84
         try clear c84b0
         try clear c84b1
         try clear c85
         try clear c86
         try clear c87
         try clear c89
         try clear c90
         try clear c92
         try clear c93
         try clear c94
         try clear c96
         try clear c97
         try clear hcz14_0
         try clear hcz14_1
         try clear hcz14_2
         try clear hcz17_0
         try clear hcz17_1
         try clear hcz17_2
         try clear hcz17_3
         try clear hcz19_0
         try clear hcz19_1
         try clear hcz19_2
         try clear hcz19_3
         try clear hcz25_0
         try clear hcz25_1
         try clear hcz25_2
         try clear hcz28_0
         try clear hcz28_1
         try clear hcz28_2
         try clear hcz28_3
         try clear hcz32_0
         try clear hcz32_1
         try clear hcz32_2
         try clear hcz39_0
         try clear hcz39_1
         try clear hcz39_2
         try clear hcz39_3
         try clear hcz42_0
         try clear hcz42_1
         try clear hcz42_2
         try clear hcz46_0
         try clear hcz46_1
         try clear hcz46_2
         try clear hcz50_0
         try clear hcz50_1
         try clear hcz50_2
         try clear hcz50_3
         try clear hcz53_0
         try clear hcz53_1
         try clear hcz53_2
         try clear hcz65_0
         try clear hcz65_1
         try clear hcz65_2
         try clear hcz68_0
         try clear hcz68_1
         try clear hcz68_2
         try clear hcz68_3
         try clear hcz72_0
         try clear hcz72_1
         try clear hcz72_2
         try clear hcz77_0
         try clear hcz77_1
         try clear hcz77_2
         try clear hcz83_0
         try clear hcz83_1
         try clear hcz83_2
         try clear hcz88_0
         try clear hcz88_1
         try clear hcz88_2
         try clear hcz91_0
         try clear hcz91_1
         try clear hcz91_2
         try clear hcz91_3
         try clear hcz95_0
         try clear hcz95_1
         try clear hcz95_2
         try clear hcz98_0
         try clear hcz98_1
         try clear hcz98_2
         try clear hcz98_3
         try clear hcz9_0
         try clear hcz9_1
         try clear hcz9_2
         try clear hcz9_3
         try clear hfz14_0
         try clear hfz14_1
         try clear hfz14_2
         try clear hfz17_0
         try clear hfz17_1
         try clear hfz17_2
         try clear hfz17_3
         try clear hfz19_0
         try clear hfz19_1
         try clear hfz19_2
         try clear hfz19_3
         try clear hfz25_0
         try clear hfz25_1
         try clear hfz25_2
         try clear hfz28_0
         try clear hfz28_1
         try clear hfz28_2
         try clear hfz28_3
         try clear hfz32_0
         try clear hfz32_1
         try clear hfz32_2
         try clear hfz39_0
         try clear hfz39_1
         try clear hfz39_2
         try clear hfz39_3
         try clear hfz42_0
         try clear hfz42_1
         try clear hfz42_2
         try clear hfz46_0
         try clear hfz46_1
         try clear hfz46_2
         try clear hfz50_0
         try clear hfz50_1
         try clear hfz50_2
         try clear hfz50_3
         try clear hfz53_0
         try clear hfz53_1
         try clear hfz53_2
         try clear hfz65_0
         try clear hfz65_1
         try clear hfz65_2
         try clear hfz68_0
         try clear hfz68_1
         try clear hfz68_2
         try clear hfz68_3
         try clear hfz72_0
         try clear hfz72_1
         try clear hfz72_2
         try clear hfz77_0
         try clear hfz77_1
         try clear hfz77_2
         try clear hfz83_0
         try clear hfz83_1
         try clear hfz83_2
         try clear hfz88_0
         try clear hfz88_1
         try clear hfz88_2
         try clear hfz91_0
         try clear hfz91_1
         try clear hfz91_2
         try clear hfz91_3
         try clear hfz95_0
         try clear hfz95_1
         try clear hfz95_2
         try clear hfz98_0
         try clear hfz98_1
         try clear hfz98_2
         try clear hfz98_3
         try clear hfz9_0
         try clear hfz9_1
         try clear hfz9_2
         try clear hfz9_3
         try clear p2
         obtain ⟨kq, x58_77, rfl, HA, HJ77, BK124, BK125, BK126, HI0, HK, HB⟩ := hcut
         cases kq with
         | zero => exact absurd HA.out (by simp [block_Blocks_take.j2])
         | succ kj77 =>
          have H := HA.out
          clear HA
          simp only [block_Blocks_take.j2] at H
          by_cases c99 : x58_77 = true
          ·subst c99
           have H1 : (some (0, (⟨#[]⟩ : ByteArray), false, false, 11, s0_0, s0_1, s0_2, s0_3)) = some (r1, r2, r3, r4, r5, r6, r7, r8, r9) := by rw [if_pos rfl] at H; exact H
           clear H
           have H := H1
           clear H1
           simp only [Option.some.injEq, Prod.mk.injEq] at H
           obtain ⟨rfl, rfl, rfl, rfl, rfl, rfl, rfl, rfl, rfl⟩ := H
           have hnb100 := NB125_124.out
           have hnc100 := NB124_125.out
           have hnb101 := NB125_126.out
           have hnc101 := NB126_125.out
           have hnb102 := NB125_0.out
           have hnc102 := NB0_125.out
           have hcz103_0 : wc.cell? ⟨gb125, 0, none⟩ = some (.int .i64 0) := (blk_cell BK125.out 0).trans rfl
           have hcz103_1 : wc.cell? ⟨gb125, 1, none⟩ = some (.string (⟨#[]⟩ : ByteArray)) := (blk_cell BK125.out 1).trans rfl
           have hcz103_2 : wc.cell? ⟨gb125, 2, none⟩ = some (.bool false) := (blk_cell BK125.out 2).trans rfl
           have hfz103_0 := blk_frozen BK125.out 0
           have hfz103_1 := blk_frozen BK125.out 1
           have hfz103_2 := blk_frozen BK125.out 2
           go_wp2
           refine bodyPost_ret (results_ctt rfl _ _ gb125 41 #[.int .i64 0, .string (⟨#[]⟩ : ByteArray), .bool false] (0, 0) _ rfl (by (with_reducible repeat (first | refine blk_drewN ?_ _ | refine blk_drew ?_ | refine blk_alloc ?_ _)); refine blk_put (cs := #[.int .i64 0, .string (⟨#[]⟩ : ByteArray), .bool false]) ?_ 2 _ rfl; (with_reducible repeat (first | refine blk_drewN ?_ _ | refine blk_drew ?_ | refine blk_alloc ?_ _)); refine blk_put (cs := #[.int .i64 0, .string (⟨#[]⟩ : ByteArray), .bool false]) ?_ 1 _ rfl; (with_reducible repeat (first | refine blk_drewN ?_ _ | refine blk_drew ?_ | refine blk_alloc ?_ _)); refine blk_put (cs := #[.int .i64 0, .string (⟨#[]⟩ : ByteArray), .bool false]) ?_ 0 _ rfl; (with_reducible repeat (first | refine blk_drewN ?_ _ | refine blk_drew ?_ | refine blk_alloc ?_ _)); exact BK125.out) Try.underlying41 rfl (by kernel_rfl)) rfl ?_
           exact ⟨by first | rfl | (simp [errW_none, errW_some] <;> rfl) | (simp [*, errW_none, errW_some] <;> rfl), by repeat (first | (with_reducible first | exact HI0.out | apply IsS63.alloc | apply IsS63.drewN | apply IsS63.drew | apply IsS63.set_0 | apply IsS63.set_1 | apply IsS63.set_2 | apply IsS63.set_3 | refine IsS63.far ?_ NB0_124.out _ | apply IsS63.far (hne := NB0_124.out) | refine IsS63.far ?_ NB0_125.out _ | apply IsS63.far (hne := NB0_125.out) | refine IsS63.far ?_ NB0_126.out _ | apply IsS63.far (hne := NB0_126.out)) | exact HI0.out), by repeat (first | (with_reducible first | exact HB.out | apply below_alloc | apply pw_below_drewN | apply below_drew1 | refine below_set ?_ (IsS63.ge HI0.out) | refine below_set ?_ GE124.out | refine below_set ?_ GE125.out | refine below_set ?_ GE126.out) | exact HB.out), by repeat (first | (with_reducible first | exact HK.out | apply KeepBut.set_ | apply keep_drewN | apply keep_drew | apply keep_alloc | refine keep_far ?_ GW124.out _ | refine keep_far ?_ GW125.out _ | refine keep_far ?_ GW126.out _) | exact HK.out)⟩
          ·replace c99 := Bool.eq_false_iff.mpr c99
           subst c99
           have H1 : (if s0_2.size + t129.size ≤ 9223372036854775807 then (if ((s0_2 ++ t129).size : Int) > s0_0 then (some (0, (⟨#[]⟩ : ByteArray), false, false, 5, s0_0, s0_1, s0_2, s0_3)) else (some (s0_1, s0_2 ++ t129, s0_3, ((Go.bits .and .i64 a1_1 4) != 0), 0, s0_0, s0_1, s0_2, s0_3))) else (none)) = some (r1, r2, r3, r4, r5, r6, r7, r8, r9) := by rw [if_neg (show ¬ (false = true) by decide)] at H; exact H
           clear H
           have H := H1
           clear H1
           by_cases c104 : s0_2.size + t129.size ≤ 9223372036854775807
           ·rw [if_pos c104] at H
            have c104b0 := eq_true c104
            have c104b1 : decide (s0_2.size + t129.size ≤ 9223372036854775807) = true := decide_eq_true c104
            try have c104b2 : (9223372036854775807 < s0_2.size + t129.size) = False := eq_false (Nat.not_lt.2 c104)
            by_cases c105 : ((s0_2 ++ t129).size : Int) > s0_0
            ·rw [if_pos c105] at H
             have c105b0 : decide (s0_0 < ((s0_2 ++ t129).size : Int)) = true := decide_eq_true c105
             try have c105n1 : decide (s0_0 < ((s0_2.size + t129.size : Nat) : Int)) = true := by have z := c105b0; rw [ByteArray.size_append] at z; exact z
             try have c105n2 : decide (s0_0 < (s0_2.size : Int) + (t129.size : Int)) = true := by have z := c105b0; rw [ByteArray.size_append, Int.natCast_add] at z; exact z
             clear c105
             simp only [Option.some.injEq, Prod.mk.injEq] at H
             obtain ⟨rfl, rfl, rfl, rfl, rfl, rfl, rfl, rfl, rfl⟩ := H
             have hnb106 := NB126_124.out
             have hnc106 := NB124_126.out
             have hnb107 := NB126_125.out
             have hnc107 := NB125_126.out
             have hnb108 := NB126_0.out
             have hnc108 := NB0_126.out
             have hcz109_0 : wc.cell? ⟨gb126, 0, none⟩ = some (.int .i64 s0_1) := (blk_cell BK126.out 0).trans rfl
             have hcz109_1 : wc.cell? ⟨gb126, 1, none⟩ = some (.string s0_2) := (blk_cell BK126.out 1).trans rfl
             have hcz109_2 : wc.cell? ⟨gb126, 2, none⟩ = some (.bool s0_3) := (blk_cell BK126.out 2).trans rfl
             have hfz109_0 := blk_frozen BK126.out 0
             have hfz109_1 := blk_frozen BK126.out 1
             have hfz109_2 := blk_frozen BK126.out 2
             try go_wp2
             have n0_ : Aside0 ((wc.setCell ⟨gb126, 1, none⟩ (.string (s0_2 ++ t129))).heap[gb124]? = some (.cells #[.int .i64 a1_0, .int .i64 a1_1, .int .i64 a1_2, .string a1_3] 39 (0, 0))) := ⟨by (with_reducible repeat (first | refine blk_drewN ?_ _ | refine blk_drew ?_ | refine blk_alloc ?_ _)); refine blk_far ?_ NB124_126.out _; (with_reducible repeat (first | refine blk_drewN ?_ _ | refine blk_drew ?_ | refine blk_alloc ?_ _)); exact BK124.out⟩
             have n1_ : Aside0 ((wc.setCell ⟨gb126, 1, none⟩ (.string (s0_2 ++ t129))).heap[gb125]? = some (.cells #[.int .i64 0, .string (⟨#[]⟩ : ByteArray), .bool false] 41 (0, 0))) := ⟨by (with_reducible repeat (first | refine blk_drewN ?_ _ | refine blk_drew ?_ | refine blk_alloc ?_ _)); refine blk_far ?_ NB125_126.out _; (with_reducible repeat (first | refine blk_drewN ?_ _ | refine blk_drew ?_ | refine blk_alloc ?_ _)); exact BK125.out⟩
             have n2_ : Aside0 ((wc.setCell ⟨gb126, 1, none⟩ (.string (s0_2 ++ t129))).heap[gb126]? = some (.cells #[.int .i64 s0_1, .string (s0_2 ++ t129), .bool s0_3] 41 (0, 0))) := ⟨by (with_reducible repeat (first | refine blk_drewN ?_ _ | refine blk_drew ?_ | refine blk_alloc ?_ _)); refine blk_put (cs := #[.int .i64 s0_1, .string s0_2, .bool s0_3]) ?_ 1 _ rfl; (with_reducible repeat (first | refine blk_drewN ?_ _ | refine blk_drew ?_ | refine blk_alloc ?_ _)); exact BK126.out⟩
             have n3_ : Aside0 (IsS63 w0 (wc.setCell ⟨gb126, 1, none⟩ (.string (s0_2 ++ t129))) g s0_0 s0_1 s0_2 s0_3) := ⟨by repeat (first | (with_reducible first | exact HI0.out | apply IsS63.alloc | apply IsS63.drewN | apply IsS63.drew | apply IsS63.set_0 | apply IsS63.set_1 | apply IsS63.set_2 | apply IsS63.set_3 | refine IsS63.far ?_ NB0_124.out _ | apply IsS63.far (hne := NB0_124.out) | refine IsS63.far ?_ NB0_125.out _ | apply IsS63.far (hne := NB0_125.out) | refine IsS63.far ?_ NB0_126.out _ | apply IsS63.far (hne := NB0_126.out)) | exact HI0.out)⟩
             have n4_ : Aside0 (KeepBut w (wc.setCell ⟨gb126, 1, none⟩ (.string (s0_2 ++ t129))) g none) := ⟨by repeat (first | (with_reducible first | exact HK.out | apply KeepBut.set_ | apply keep_drewN | apply keep_drew | apply keep_alloc | refine keep_far ?_ GW124.out _ | refine keep_far ?_ GW125.out _ | refine keep_far ?_ GW126.out _) | exact HK.out)⟩
             have n5_ : Aside0 (Below w0.heap.size w0 (wc.setCell ⟨gb126, 1, none⟩ (.string (s0_2 ++ t129)))) := ⟨by repeat (first | (with_reducible first | exact HB.out | apply below_alloc | apply pw_below_drewN | apply below_drew1 | refine below_set ?_ (IsS63.ge HI0.out) | refine below_set ?_ GE124.out | refine below_set ?_ GE125.out | refine below_set ?_ GE126.out) | exact HB.out)⟩
             (try clear BK124)
             (try clear BK125)
             (try clear BK126)
             (try clear HI0)
             (try clear HK)
             (try clear HB)
             generalize (wc.setCell ⟨gb126, 1, none⟩ (.string (s0_2 ++ t129))) = w110 at n0_ n1_ n2_ n3_ n4_ n5_ ⊢
             have BK124 := n0_
             have BK125 := n1_
             have BK126 := n2_
             have HI0 := n3_
             have HK := n4_
             have HB := n5_
             clear n0_ n1_ n2_ n3_ n4_ n5_
             have n0_ := Aside0.mk (blk_drew BK124.out)
             have n1_ := Aside0.mk (blk_drew BK125.out)
             have n2_ := Aside0.mk (blk_drew BK126.out)
             have n3_ := Aside0.mk (IsS63.drew HI0.out)
             have n4_ := Aside0.mk (keep_drew HK.out)
             have n5_ := Aside0.mk (below_drew1 HB.out)
             clear BK124
             clear BK125
             clear BK126
             clear HI0
             clear HK
             clear HB
             have BK124 := n0_
             have BK125 := n1_
             have BK126 := n2_
             have HI0 := n3_
             have HK := n4_
             have HB := n5_
             clear n0_ n1_ n2_ n3_ n4_ n5_
             refine start_ (n := 8) (S := fun w' => w'.cell? ⟨gb126, 0, none⟩ = some (.int .i64 s0_1) ∧ w'.cell? ⟨gb126, 1, none⟩ = some (.string (s0_2 ++ t129)) ∧ w'.cell? ⟨gb126, 2, none⟩ = some (.bool s0_3) ∧ w'.cell? ⟨g, 0, none⟩ = some (.int .i64 s0_0) ∧ w'.cell? ⟨g, 1, none⟩ = some (.int .i64 s0_1) ∧ w'.cell? ⟨g, 2, none⟩ = some (.string s0_2) ∧ w'.cell? ⟨g, 3, none⟩ = some (.bool s0_3)) (ds := []) #[false, false, false, false, false, false, false, false] (by kernel_rfl) rfl rfl ⟨(blk_cell BK126.out 0).trans rfl, (blk_cell BK126.out 1).trans rfl, (blk_cell BK126.out 2).trans rfl, cellS63_0 HI0.out.1, cellS63_1 HI0.out.1, cellS63_2 HI0.out.1, cellS63_3 HI0.out.1⟩ (fun hHeld => ?_); refine with_tabW block_Blocks_take.tab13 block_Blocks_take.bits13 (fun HT_ HW_ => ?_)
             generalize w110.drew = w111 at BK124 BK125 BK126 HI0 HK HB hHeld ⊢
             refine pure_ (i := 0) (N := some 80) (v := ?_) (a' := ?_) #[true, false, false, false, false, false, false, false] rfl rfl (any_of HT_.out (by kernel_rfl)) (fun _ _ _ h => h) (Or.inl ⟨by rfl, ?_⟩) ?_ ?_
             rotate_left
             ·intro w'
              go_simp
              with_reducible rfl
             rotate_left
             ·simp only [Act.put, List.setIfInBounds_toArray, List.set_cons_zero, List.set_cons_succ, i64_w, i32_w]
              rfl
             refine pure_ (i := 3) (N := some 83) (v := ?_) (a' := ?_) #[true, false, false, true, false, false, false, false] rfl rfl (any_of HT_.out (by kernel_rfl)) (fun _ _ _ h => h) (Or.inl ⟨by rfl, ?_⟩) ?_ ?_
             rotate_left
             ·intro w'
              go_simp
              with_reducible rfl
             rotate_left
             ·simp only [Act.put, List.setIfInBounds_toArray, List.set_cons_zero, List.set_cons_succ, i64_w, i32_w]
              rfl
             refine pure_ (i := 4) (N := some 84) (v := ?_) (a' := ?_) #[true, false, false, true, true, false, false, false] rfl rfl (any_of HT_.out (by kernel_rfl)) (fun _ _ _ h => h) (Or.inl ⟨by rfl, ?_⟩) ?_ ?_
             rotate_left
             ·intro w'
              go_simp
              with_reducible rfl
             rotate_left
             ·simp only [Act.put, List.setIfInBounds_toArray, List.set_cons_zero, List.set_cons_succ, i64_w, i32_w]
              rfl
             refine pure_ (i := 5) (N := some 85) (v := ?_) (a' := ?_) #[true, false, false, true, true, true, false, false] rfl rfl (any_of HT_.out (by kernel_rfl)) (fun _ _ _ h => h) (Or.inl ⟨by rfl, ?_⟩) ?_ ?_
             rotate_left
             ·intro w'
              go_simp
              with_reducible rfl
             rotate_left
             ·simp only [Act.put, List.setIfInBounds_toArray, List.set_cons_zero, List.set_cons_succ, i64_w, i32_w]
              rfl
             refine take_ (i := 1) (N := some 81) (v := ?_) (a' := ?_) #[true, true, false, true, true, true, false, false] rfl rfl (take_ofW HT_.out HW_.out (by kernel_rfl)) (fun _ _ _ h => h) (Or.inl ⟨by rfl, ?_⟩) hHeld ?_ ?_
             rotate_left
             ·rintro w' ⟨s0, s1, s2, s3, s4, s5, s6⟩
              go_simp
              with_reducible rfl
             rotate_left
             ·simp only [Act.put, List.setIfInBounds_toArray, List.set_cons_zero, List.set_cons_succ, i64_w, i32_w]
              rfl
             refine pure_ (i := 2) (N := some 82) (v := ?_) (a' := ?_) #[true, true, true, true, true, true, false, false] rfl rfl (any_of HT_.out (by kernel_rfl)) (fun _ _ _ h => h) (Or.inl ⟨by rfl, ?_⟩) ?_ ?_
             rotate_left
             ·intro w'
              go_simp
              with_reducible rfl
             rotate_left
             ·simp only [Act.put, List.setIfInBounds_toArray, List.set_cons_zero, List.set_cons_succ, i64_w, i32_w]
              rfl
             refine take_ (i := 6) (N := some 86) (v := ?_) (a' := ?_) #[true, true, true, true, true, true, true, false] rfl rfl (take_ofW HT_.out HW_.out (by kernel_rfl)) (fun _ _ _ h => h) (Or.inl ⟨by rfl, ?_⟩) hHeld ?_ ?_
             rotate_left
             ·rintro w' ⟨s0, s1, s2, s3, s4, s5, s6⟩
              go_simp
              with_reducible rfl
             rotate_left
             ·simp only [Act.put, List.setIfInBounds_toArray, List.set_cons_zero, List.set_cons_succ, i64_w, i32_w]
              rfl
             refine pure_ (i := 7) (N := some 87) (v := ?_) (a' := ?_) #[true, true, true, true, true, true, true, true] rfl rfl (any_of HT_.out (by kernel_rfl)) (fun _ _ _ h => h) (Or.inl ⟨by rfl, ?_⟩) ?_ ?_
             rotate_left
             ·intro w'
              go_simp
              with_reducible rfl
             rotate_left
             ·simp only [Act.put, List.setIfInBounds_toArray, List.set_cons_zero, List.set_cons_succ, i64_w, i32_w]
              rfl
             refine done_ (done_of HT_.out (by kernel_rfl)) ?_
             have hnb112 := NB125_124.out
             have hnc112 := NB124_125.out
             have hnb113 := NB125_0.out
             have hnc113 := NB0_125.out
             have hcz114_0 : w111.cell? ⟨gb125, 0, none⟩ = some (.int .i64 0) := (blk_cell BK125.out 0).trans rfl
             have hcz114_1 : w111.cell? ⟨gb125, 1, none⟩ = some (.string (⟨#[]⟩ : ByteArray)) := (blk_cell BK125.out 1).trans rfl
             have hcz114_2 : w111.cell? ⟨gb125, 2, none⟩ = some (.bool false) := (blk_cell BK125.out 2).trans rfl
             have hfz114_0 := blk_frozen BK125.out 0
             have hfz114_1 := blk_frozen BK125.out 1
             have hfz114_2 := blk_frozen BK125.out 2
             try go_wp2
             refine bodyPost_ret (results_ctt rfl _ _ gb125 41 #[.int .i64 0, .string (⟨#[]⟩ : ByteArray), .bool false] (0, 0) _ rfl (by (with_reducible repeat (first | refine blk_drewN ?_ _ | refine blk_drew ?_ | refine blk_alloc ?_ _)); refine blk_put (cs := #[.int .i64 0, .string (⟨#[]⟩ : ByteArray), .bool false]) ?_ 2 _ rfl; (with_reducible repeat (first | refine blk_drewN ?_ _ | refine blk_drew ?_ | refine blk_alloc ?_ _)); refine blk_put (cs := #[.int .i64 0, .string (⟨#[]⟩ : ByteArray), .bool false]) ?_ 1 _ rfl; (with_reducible repeat (first | refine blk_drewN ?_ _ | refine blk_drew ?_ | refine blk_alloc ?_ _)); refine blk_put (cs := #[.int .i64 0, .string (⟨#[]⟩ : ByteArray), .bool false]) ?_ 0 _ rfl; (with_reducible repeat (first | refine blk_drewN ?_ _ | refine blk_drew ?_ | refine blk_alloc ?_ _)); exact BK125.out) Try.underlying41 rfl (by kernel_rfl)) rfl ?_
             exact ⟨by first | rfl | (simp [errW_none, errW_some] <;> rfl) | (simp [*, errW_none, errW_some] <;> rfl), by repeat (first | (with_reducible first | exact HI0.out | apply IsS63.alloc | apply IsS63.drewN | apply IsS63.drew | apply IsS63.set_0 | apply IsS63.set_1 | apply IsS63.set_2 | apply IsS63.set_3 | refine IsS63.far ?_ NB0_124.out _ | apply IsS63.far (hne := NB0_124.out) | refine IsS63.far ?_ NB0_125.out _ | apply IsS63.far (hne := NB0_125.out) | refine IsS63.far ?_ NB0_126.out _ | apply IsS63.far (hne := NB0_126.out)) | exact HI0.out), by repeat (first | (with_reducible first | exact HB.out | apply below_alloc | apply pw_below_drewN | apply below_drew1 | refine below_set ?_ (IsS63.ge HI0.out) | refine below_set ?_ GE124.out | refine below_set ?_ GE125.out | refine below_set ?_ GE126.out) | exact HB.out), by repeat (first | (with_reducible first | exact HK.out | apply KeepBut.set_ | apply keep_drewN | apply keep_drew | apply keep_alloc | refine keep_far ?_ GW124.out _ | refine keep_far ?_ GW125.out _ | refine keep_far ?_ GW126.out _) | exact HK.out)⟩
            ·rw [if_neg c105] at H
             have c105b0 : decide (s0_0 < ((s0_2 ++ t129).size : Int)) = false := decide_eq_false c105
             try have c105n1 : decide (s0_0 < ((s0_2.size + t129.size : Nat) : Int)) = false := by have z := c105b0; rw [ByteArray.size_append] at z; exact z
             try have c105n2 : decide (s0_0 < (s0_2.size : Int) + (t129.size : Int)) = false := by have z := c105b0; rw [ByteArray.size_append, Int.natCast_add] at z; exact z
             clear c105
             simp only [Option.some.injEq, Prod.mk.injEq] at H
             obtain ⟨rfl, rfl, rfl, rfl, rfl, rfl, rfl, rfl, rfl⟩ := H
             have hnb115 := NB126_124.out
             have hnc115 := NB124_126.out
             have hnb116 := NB126_125.out
             have hnc116 := NB125_126.out
             have hnb117 := NB126_0.out
             have hnc117 := NB0_126.out
             have hcz118_0 : wc.cell? ⟨gb126, 0, none⟩ = some (.int .i64 s0_1) := (blk_cell BK126.out 0).trans rfl
             have hcz118_1 : wc.cell? ⟨gb126, 1, none⟩ = some (.string s0_2) := (blk_cell BK126.out 1).trans rfl
             have hcz118_2 : wc.cell? ⟨gb126, 2, none⟩ = some (.bool s0_3) := (blk_cell BK126.out 2).trans rfl
             have hfz118_0 := blk_frozen BK126.out 0
             have hfz118_1 := blk_frozen BK126.out 1
             have hfz118_2 := blk_frozen BK126.out 2
             try go_wp2
             have n0_ : Aside0 ((wc.setCell ⟨gb126, 1, none⟩ (.string (s0_2 ++ t129))).heap[gb124]? = some (.cells #[.int .i64 a1_0, .int .i64 a1_1, .int .i64 a1_2, .string a1_3] 39 (0, 0))) := ⟨by (with_reducible repeat (first | refine blk_drewN ?_ _ | refine blk_drew ?_ | refine blk_alloc ?_ _)); refine blk_far ?_ NB124_126.out _; (with_reducible repeat (first | refine blk_drewN ?_ _ | refine blk_drew ?_ | refine blk_alloc ?_ _)); exact BK124.out⟩
             have n1_ : Aside0 ((wc.setCell ⟨gb126, 1, none⟩ (.string (s0_2 ++ t129))).heap[gb125]? = some (.cells #[.int .i64 0, .string (⟨#[]⟩ : ByteArray), .bool false] 41 (0, 0))) := ⟨by (with_reducible repeat (first | refine blk_drewN ?_ _ | refine blk_drew ?_ | refine blk_alloc ?_ _)); refine blk_far ?_ NB125_126.out _; (with_reducible repeat (first | refine blk_drewN ?_ _ | refine blk_drew ?_ | refine blk_alloc ?_ _)); exact BK125.out⟩
             have n2_ : Aside0 ((wc.setCell ⟨gb126, 1, none⟩ (.string (s0_2 ++ t129))).heap[gb126]? = some (.cells #[.int .i64 s0_1, .string (s0_2 ++ t129), .bool s0_3] 41 (0, 0))) := ⟨by (with_reducible repeat (first | refine blk_drewN ?_ _ | refine blk_drew ?_ | refine blk_alloc ?_ _)); refine blk_put (cs := #[.int .i64 s0_1, .string s0_2, .bool s0_3]) ?_ 1 _ rfl; (with_reducible repeat (first | refine blk_drewN ?_ _ | refine blk_drew ?_ | refine blk_alloc ?_ _)); exact BK126.out⟩
             have n3_ : Aside0 (IsS63 w0 (wc.setCell ⟨gb126, 1, none⟩ (.string (s0_2 ++ t129))) g s0_0 s0_1 s0_2 s0_3) := ⟨by repeat (first | (with_reducible first | exact HI0.out | apply IsS63.alloc | apply IsS63.drewN | apply IsS63.drew | apply IsS63.set_0 | apply IsS63.set_1 | apply IsS63.set_2 | apply IsS63.set_3 | refine IsS63.far ?_ NB0_124.out _ | apply IsS63.far (hne := NB0_124.out) | refine IsS63.far ?_ NB0_125.out _ | apply IsS63.far (hne := NB0_125.out) | refine IsS63.far ?_ NB0_126.out _ | apply IsS63.far (hne := NB0_126.out)) | exact HI0.out)⟩
             have n4_ : Aside0 (KeepBut w (wc.setCell ⟨gb126, 1, none⟩ (.string (s0_2 ++ t129))) g none) := ⟨by repeat (first | (with_reducible first | exact HK.out | apply KeepBut.set_ | apply keep_drewN | apply keep_drew | apply keep_alloc | refine keep_far ?_ GW124.out _ | refine keep_far ?_ GW125.out _ | refine keep_far ?_ GW126.out _) | exact HK.out)⟩
             have n5_ : Aside0 (Below w0.heap.size w0 (wc.setCell ⟨gb126, 1, none⟩ (.string (s0_2 ++ t129)))) := ⟨by repeat (first | (with_reducible first | exact HB.out | apply below_alloc | apply pw_below_drewN | apply below_drew1 | refine below_set ?_ (IsS63.ge HI0.out) | refine below_set ?_ GE124.out | refine below_set ?_ GE125.out | refine below_set ?_ GE126.out) | exact HB.out)⟩
             (try clear BK124)
             (try clear BK125)
             (try clear BK126)
             (try clear HI0)
             (try clear HK)
             (try clear HB)
             generalize (wc.setCell ⟨gb126, 1, none⟩ (.string (s0_2 ++ t129))) = w119 at n0_ n1_ n2_ n3_ n4_ n5_ ⊢
             have BK124 := n0_
             have BK125 := n1_
             have BK126 := n2_
             have HI0 := n3_
             have HK := n4_
             have HB := n5_
             clear n0_ n1_ n2_ n3_ n4_ n5_
             have n0_ := Aside0.mk (blk_drew BK124.out)
             have n1_ := Aside0.mk (blk_drew BK125.out)
             have n2_ := Aside0.mk (blk_drew BK126.out)
             have n3_ := Aside0.mk (IsS63.drew HI0.out)
             have n4_ := Aside0.mk (keep_drew HK.out)
             have n5_ := Aside0.mk (below_drew1 HB.out)
             clear BK124
             clear BK125
             clear BK126
             clear HI0
             clear HK
             clear HB
             have BK124 := n0_
             have BK125 := n1_
             have BK126 := n2_
             have HI0 := n3_
             have HK := n4_
             have HB := n5_
             clear n0_ n1_ n2_ n3_ n4_ n5_
             refine start_ (n := 8) (S := fun w' => w'.cell? ⟨gb126, 0, none⟩ = some (.int .i64 s0_1) ∧ w'.cell? ⟨gb126, 1, none⟩ = some (.string (s0_2 ++ t129)) ∧ w'.cell? ⟨gb126, 2, none⟩ = some (.bool s0_3) ∧ w'.cell? ⟨g, 0, none⟩ = some (.int .i64 s0_0) ∧ w'.cell? ⟨g, 1, none⟩ = some (.int .i64 s0_1) ∧ w'.cell? ⟨g, 2, none⟩ = some (.string s0_2) ∧ w'.cell? ⟨g, 3, none⟩ = some (.bool s0_3)) (ds := []) #[false, false, false, false, false, false, false, false] (by kernel_rfl) rfl rfl ⟨(blk_cell BK126.out 0).trans rfl, (blk_cell BK126.out 1).trans rfl, (blk_cell BK126.out 2).trans rfl, cellS63_0 HI0.out.1, cellS63_1 HI0.out.1, cellS63_2 HI0.out.1, cellS63_3 HI0.out.1⟩ (fun hHeld => ?_); refine with_tabW block_Blocks_take.tab13 block_Blocks_take.bits13 (fun HT_ HW_ => ?_)
             generalize w119.drew = w120 at BK124 BK125 BK126 HI0 HK HB hHeld ⊢
             refine pure_ (i := 0) (N := some 80) (v := ?_) (a' := ?_) #[true, false, false, false, false, false, false, false] rfl rfl (any_of HT_.out (by kernel_rfl)) (fun _ _ _ h => h) (Or.inl ⟨by rfl, ?_⟩) ?_ ?_
             rotate_left
             ·intro w'
              go_simp
              with_reducible rfl
             rotate_left
             ·simp only [Act.put, List.setIfInBounds_toArray, List.set_cons_zero, List.set_cons_succ, i64_w, i32_w]
              rfl
             refine pure_ (i := 3) (N := some 83) (v := ?_) (a' := ?_) #[true, false, false, true, false, false, false, false] rfl rfl (any_of HT_.out (by kernel_rfl)) (fun _ _ _ h => h) (Or.inl ⟨by rfl, ?_⟩) ?_ ?_
             rotate_left
             ·intro w'
              go_simp
              with_reducible rfl
             rotate_left
             ·simp only [Act.put, List.setIfInBounds_toArray, List.set_cons_zero, List.set_cons_succ, i64_w, i32_w]
              rfl
             refine pure_ (i := 4) (N := some 84) (v := ?_) (a' := ?_) #[true, false, false, true, true, false, false, false] rfl rfl (any_of HT_.out (by kernel_rfl)) (fun _ _ _ h => h) (Or.inl ⟨by rfl, ?_⟩) ?_ ?_
             rotate_left
             ·intro w'
              go_simp
              with_reducible rfl
             rotate_left
             ·simp only [Act.put, List.setIfInBounds_toArray, List.set_cons_zero, List.set_cons_succ, i64_w, i32_w]
              rfl
             refine pure_ (i := 5) (N := some 85) (v := ?_) (a' := ?_) #[true, false, false, true, true, true, false, false] rfl rfl (any_of HT_.out (by kernel_rfl)) (fun _ _ _ h => h) (Or.inl ⟨by rfl, ?_⟩) ?_ ?_
             rotate_left
             ·intro w'
              go_simp
              with_reducible rfl
             rotate_left
             ·simp only [Act.put, List.setIfInBounds_toArray, List.set_cons_zero, List.set_cons_succ, i64_w, i32_w]
              rfl
             refine take_ (i := 1) (N := some 81) (v := ?_) (a' := ?_) #[true, true, false, true, true, true, false, false] rfl rfl (take_ofW HT_.out HW_.out (by kernel_rfl)) (fun _ _ _ h => h) (Or.inl ⟨by rfl, ?_⟩) hHeld ?_ ?_
             rotate_left
             ·rintro w' ⟨s0, s1, s2, s3, s4, s5, s6⟩
              go_simp
              with_reducible rfl
             rotate_left
             ·simp only [Act.put, List.setIfInBounds_toArray, List.set_cons_zero, List.set_cons_succ, i64_w, i32_w]
              rfl
             refine pure_ (i := 2) (N := some 82) (v := ?_) (a' := ?_) #[true, true, true, true, true, true, false, false] rfl rfl (any_of HT_.out (by kernel_rfl)) (fun _ _ _ h => h) (Or.inl ⟨by rfl, ?_⟩) ?_ ?_
             rotate_left
             ·intro w'
              go_simp
              with_reducible rfl
             rotate_left
             ·simp only [Act.put, List.setIfInBounds_toArray, List.set_cons_zero, List.set_cons_succ, i64_w, i32_w]
              rfl
             refine take_ (i := 6) (N := some 86) (v := ?_) (a' := ?_) #[true, true, true, true, true, true, true, false] rfl rfl (take_ofW HT_.out HW_.out (by kernel_rfl)) (fun _ _ _ h => h) (Or.inl ⟨by rfl, ?_⟩) hHeld ?_ ?_
             rotate_left
             ·rintro w' ⟨s0, s1, s2, s3, s4, s5, s6⟩
              go_simp
              with_reducible rfl
             rotate_left
             ·simp only [Act.put, List.setIfInBounds_toArray, List.set_cons_zero, List.set_cons_succ, i64_w, i32_w]
              rfl
             refine pure_ (i := 7) (N := some 87) (v := ?_) (a' := ?_) #[true, true, true, true, true, true, true, true] rfl rfl (any_of HT_.out (by kernel_rfl)) (fun _ _ _ h => h) (Or.inl ⟨by rfl, ?_⟩) ?_ ?_
             rotate_left
             ·intro w'
              go_simp
              with_reducible rfl
             rotate_left
             ·simp only [Act.put, List.setIfInBounds_toArray, List.set_cons_zero, List.set_cons_succ, i64_w, i32_w]
              rfl
             refine done_ (done_of HT_.out (by kernel_rfl)) ?_
             try go_wp2
             have n0_ := Aside0.mk (blk_drew BK124.out)
             have n1_ := Aside0.mk (blk_drew BK125.out)
             have n2_ := Aside0.mk (blk_drew BK126.out)
             have n3_ := Aside0.mk (IsS63.drew HI0.out)
             have n4_ := Aside0.mk (keep_drew HK.out)
             have n5_ := Aside0.mk (below_drew1 HB.out)
             clear BK124
             clear BK125
             clear BK126
             clear HI0
             clear HK
             clear HB
             have BK124 := n0_
             have BK125 := n1_
             have BK126 := n2_
             have HI0 := n3_
             have HK := n4_
             have HB := n5_
             clear n0_ n1_ n2_ n3_ n4_ n5_
             refine start_ (n := 8) (S := fun w' => w'.cell? ⟨gb126, 0, none⟩ = some (.int .i64 s0_1) ∧ w'.cell? ⟨gb126, 1, none⟩ = some (.string (s0_2 ++ t129)) ∧ w'.cell? ⟨gb126, 2, none⟩ = some (.bool s0_3) ∧ w'.cell? ⟨gb124, 0, none⟩ = some (.int .i64 a1_0) ∧ w'.cell? ⟨gb124, 1, none⟩ = some (.int .i64 a1_1) ∧ w'.cell? ⟨gb124, 2, none⟩ = some (.int .i64 a1_2) ∧ w'.cell? ⟨gb124, 3, none⟩ = some (.string a1_3)) (ds := []) #[false, false, false, false, false, false, false, false] (by kernel_rfl) rfl rfl ⟨(blk_cell BK126.out 0).trans rfl, (blk_cell BK126.out 1).trans rfl, (blk_cell BK126.out 2).trans rfl, (blk_cell BK124.out 0).trans rfl, (blk_cell BK124.out 1).trans rfl, (blk_cell BK124.out 2).trans rfl, (blk_cell BK124.out 3).trans rfl⟩ (fun hHeld => ?_); refine with_tabW block_Blocks_take.tab15 block_Blocks_take.bits15 (fun HT_ HW_ => ?_)
             generalize w120.drew = w121 at BK124 BK125 BK126 HI0 HK HB hHeld ⊢
             refine pure_ (i := 1) (N := some 90) (v := ?_) (a' := ?_) #[false, true, false, false, false, false, false, false] rfl rfl (any_of HT_.out (by kernel_rfl)) (fun _ _ _ h => h) (Or.inl ⟨by rfl, ?_⟩) ?_ ?_
             rotate_left
             ·intro w'
              go_simp
              with_reducible rfl
             rotate_left
             ·simp only [Act.put, List.setIfInBounds_toArray, List.set_cons_zero, List.set_cons_succ, i64_w, i32_w]
              rfl
             refine take_ (i := 0) (N := some 89) (v := ?_) (a' := ?_) #[true, true, false, false, false, false, false, false] rfl rfl (take_ofW HT_.out HW_.out (by kernel_rfl)) (fun _ _ _ h => h) (Or.inl ⟨by rfl, ?_⟩) hHeld ?_ ?_
             rotate_left
             ·rintro w' ⟨s0, s1, s2, s3, s4, s5, s6⟩
              go_simp
              with_reducible rfl
             rotate_left
             ·simp only [Act.put, List.setIfInBounds_toArray, List.set_cons_zero, List.set_cons_succ, i64_w, i32_w]
              rfl
             refine take_ (i := 2) (N := some 91) (v := ?_) (a' := ?_) #[true, true, true, false, false, false, false, false] rfl rfl (take_ofW HT_.out HW_.out (by kernel_rfl)) (fun _ _ _ h => h) (Or.inl ⟨by rfl, ?_⟩) hHeld ?_ ?_
             rotate_left
             ·rintro w' ⟨s0, s1, s2, s3, s4, s5, s6⟩
              go_simp
              with_reducible rfl
             rotate_left
             ·simp only [Act.put, List.setIfInBounds_toArray, List.set_cons_zero, List.set_cons_succ, i64_w, i32_w]
              rfl
             refine pure_ (i := 3) (N := some 92) (v := ?_) (a' := ?_) #[true, true, true, true, false, false, false, false] rfl rfl (any_of HT_.out (by kernel_rfl)) (fun _ _ _ h => h) (Or.inl ⟨by rfl, ?_⟩) ?_ ?_
             rotate_left
             ·intro w'
              go_simp
              with_reducible rfl
             rotate_left
             ·simp only [Act.put, List.setIfInBounds_toArray, List.set_cons_zero, List.set_cons_succ, i64_w, i32_w]
              rfl
             refine pure_ (i := 4) (N := some 93) (v := ?_) (a' := ?_) #[true, true, true, true, true, false, false, false] rfl rfl (any_of HT_.out (by kernel_rfl)) (fun _ _ _ h => h) (Or.inl ⟨by rfl, ?_⟩) ?_ ?_
             rotate_left
             ·intro w'
              go_simp
              with_reducible rfl
             rotate_left
             ·simp only [Act.put, List.setIfInBounds_toArray, List.set_cons_zero, List.set_cons_succ, i64_w, i32_w]
              rfl
             refine one_ (i := 5) (N := none) #[true, true, true, true, true, true, false, false] rfl rfl (one_of HT_.out (by kernel_rfl)) (by decide) (fun K hK => ?_)
             have hs122 : w121.cell? ⟨gb125, 0, none⟩ = some (.int .i64 0) := (blk_cell BK125.out 0).trans rfl
             have hfs122 := blk_frozen BK125.out 0
             have hns122_0 := NB124_125.out
             have hns122_2 := NB126_125.out
             have hms122_0 := NB125_124.out
             have hms122_2 := NB125_126.out
             have hs123 : w121.cell? ⟨gb125, 1, none⟩ = some (.string (⟨#[]⟩ : ByteArray)) := (blk_cell BK125.out 1).trans rfl
             have hfs123 := blk_frozen BK125.out 1
             have hns123_0 := NB124_125.out
             have hns123_2 := NB126_125.out
             have hms123_0 := NB125_124.out
             have hms123_2 := NB125_126.out
             have hs124 : w121.cell? ⟨gb125, 2, none⟩ = some (.bool false) := (blk_cell BK125.out 2).trans rfl
             have hfs124 := blk_frozen BK125.out 2
             have hns124_0 := NB124_125.out
             have hns124_2 := NB126_125.out
             have hms124_0 := NB125_124.out
             have hms124_2 := NB125_126.out
             refine skip_ (w1 := ?_) (by rfl) rfl ?_ ?_
             rotate_left
             ·go_simp
              rfl
             refine hK.out _ _ ⟨((cell_far (p := ⟨gb125, _, none⟩) NB126_125.out _).trans (((cell_far (p := ⟨gb125, _, none⟩) NB126_125.out _).trans (((cell_far (p := ⟨gb125, _, none⟩) NB126_125.out _).trans (hHeld.1)))))), ((cell_far (p := ⟨gb125, _, none⟩) NB126_125.out _).trans (((cell_far (p := ⟨gb125, _, none⟩) NB126_125.out _).trans (((cell_far (p := ⟨gb125, _, none⟩) NB126_125.out _).trans (hHeld.2.1)))))), ((cell_far (p := ⟨gb125, _, none⟩) NB126_125.out _).trans (((cell_far (p := ⟨gb125, _, none⟩) NB126_125.out _).trans (((cell_far (p := ⟨gb125, _, none⟩) NB126_125.out _).trans (hHeld.2.2.1)))))), ((cell_far (p := ⟨gb125, _, none⟩) NB124_125.out _).trans (((cell_far (p := ⟨gb125, _, none⟩) NB124_125.out _).trans (((cell_far (p := ⟨gb125, _, none⟩) NB124_125.out _).trans (hHeld.2.2.2.1)))))), ((cell_far (p := ⟨gb125, _, none⟩) NB124_125.out _).trans (((cell_far (p := ⟨gb125, _, none⟩) NB124_125.out _).trans (((cell_far (p := ⟨gb125, _, none⟩) NB124_125.out _).trans (hHeld.2.2.2.2.1)))))), ((cell_far (p := ⟨gb125, _, none⟩) NB124_125.out _).trans (((cell_far (p := ⟨gb125, _, none⟩) NB124_125.out _).trans (((cell_far (p := ⟨gb125, _, none⟩) NB124_125.out _).trans (hHeld.2.2.2.2.2.1)))))), ((cell_far (p := ⟨gb125, _, none⟩) NB124_125.out _).trans (((cell_far (p := ⟨gb125, _, none⟩) NB124_125.out _).trans (((cell_far (p := ⟨gb125, _, none⟩) NB124_125.out _).trans (hHeld.2.2.2.2.2.2))))))⟩ (fun hHeld => ?_)
             clear hK K
             refine pure_ (i := 6) (N := some 5) (v := ?_) (a' := ?_) #[true, true, true, true, true, true, true, false] rfl rfl (any_of HT_.out (by kernel_rfl)) (fun _ _ _ h => h) (Or.inl ⟨by rfl, ?_⟩) ?_ ?_
             rotate_left
             ·intro w'
              go_simp
              with_reducible rfl
             rotate_left
             ·simp only [Act.put, List.setIfInBounds_toArray, List.set_cons_zero, List.set_cons_succ, i64_w, i32_w]
              rfl
             refine pure_ (i := 7) (N := some 6) (v := ?_) (a' := ?_) #[true, true, true, true, true, true, true, true] rfl rfl (any_of HT_.out (by kernel_rfl)) (fun _ _ _ h => h) (Or.inl ⟨by rfl, ?_⟩) ?_ ?_
             rotate_left
             ·intro w'
              go_simp
              with_reducible rfl
             rotate_left
             ·simp only [Act.put, List.setIfInBounds_toArray, List.set_cons_zero, List.set_cons_succ, i64_w, i32_w]
              rfl
             refine done_ (done_of HT_.out (by kernel_rfl)) ?_
             try go_wp2
             refine bodyPost_ret (results_ctt rfl _ _ gb125 41 #[.int .i64 s0_1, .string (s0_2 ++ t129), .bool s0_3] (0, 0) _ rfl (by (with_reducible repeat (first | refine blk_drewN ?_ _ | refine blk_drew ?_ | refine blk_alloc ?_ _)); refine blk_put (cs := #[.int .i64 s0_1, .string (s0_2 ++ t129), .bool false]) ?_ 2 _ rfl; (with_reducible repeat (first | refine blk_drewN ?_ _ | refine blk_drew ?_ | refine blk_alloc ?_ _)); refine blk_put (cs := #[.int .i64 s0_1, .string (⟨#[]⟩ : ByteArray), .bool false]) ?_ 1 _ rfl; (with_reducible repeat (first | refine blk_drewN ?_ _ | refine blk_drew ?_ | refine blk_alloc ?_ _)); refine blk_put (cs := #[.int .i64 0, .string (⟨#[]⟩ : ByteArray), .bool false]) ?_ 0 _ rfl; (with_reducible repeat (first | refine blk_drewN ?_ _ | refine blk_drew ?_ | refine blk_alloc ?_ _)); exact BK125.out) Try.underlying41 rfl (by kernel_rfl)) rfl ?_
             exact ⟨by first | rfl | (simp [errW_none, errW_some] <;> rfl) | (simp [*, errW_none, errW_some] <;> rfl), by repeat (first | (with_reducible first | exact HI0.out | apply IsS63.alloc | apply IsS63.drewN | apply IsS63.drew | apply IsS63.set_0 | apply IsS63.set_1 | apply IsS63.set_2 | apply IsS63.set_3 | refine IsS63.far ?_ NB0_124.out _ | apply IsS63.far (hne := NB0_124.out) | refine IsS63.far ?_ NB0_125.out _ | apply IsS63.far (hne := NB0_125.out) | refine IsS63.far ?_ NB0_126.out _ | apply IsS63.far (hne := NB0_126.out)) | exact HI0.out), by repeat (first | (with_reducible first | exact HB.out | apply below_alloc | apply pw_below_drewN | apply below_drew1 | refine below_set ?_ (IsS63.ge HI0.out) | refine below_set ?_ GE124.out | refine below_set ?_ GE125.out | refine below_set ?_ GE126.out) | exact HB.out), by repeat (first | (with_reducible first | exact HK.out | apply KeepBut.set_ | apply keep_drewN | apply keep_drew | apply keep_alloc | refine keep_far ?_ GW124.out _ | refine keep_far ?_ GW125.out _ | refine keep_far ?_ GW126.out _) | exact HK.out)⟩
           ·rw [if_neg c104] at H
            exact absurd H (by simp)
 ·rw [if_neg c5] at H
  have c5b0 : (t128 == 0) = false := beq_eq_false_iff_ne.mpr c5
  have c5b1 : (t128 != 0) = true := bne_iff_ne.mpr c5
  simp only [Option.some.injEq, Prod.mk.injEq] at H
  obtain ⟨rfl, rfl, rfl, rfl, rfl, rfl, rfl, rfl, rfl⟩ := H
  go_enter Try.func22, Try.ntmps22
  go_wp2_with (first | ((with_reducible refine gate_dst (N := 3) rfl ?_); refine box_event ?hg (N := 3) ?hd (cs := #[.int .i64 a1_0, .int .i64 a1_1, .int .i64 a1_2, .string a1_3]) (t := 39) ?hr ?_; (case hd => rfl); (case hg => rfl); (case hr => first | (go_simp; done) | (go_simp; rfl)); intro gb124 hg w125 hbox hb; have n0_ := Aside0.mk (IsS63.below (by repeat (first | (with_reducible first | exact HI0.out | apply IsS63.alloc | apply IsS63.drewN | apply IsS63.drew | apply IsS63.set_0 | apply IsS63.set_1 | apply IsS63.set_2 | apply IsS63.set_3) | exact HI0.out)) hb); have n1_ := Aside0.mk (KeepBut.trans (by repeat (first | (with_reducible first | exact HK.out | apply KeepBut.set_ | apply keep_drewN | apply keep_drew | apply keep_alloc) | exact HK.out)) (KeepBut.of_below hb g none) (.inl rfl)); have n2_ := Aside0.mk (below_step (by repeat (first | (with_reducible first | exact HB.out | apply below_alloc | apply pw_below_drewN | apply below_drew1 | refine below_set ?_ (IsS63.ge HI0.out)) | exact HB.out)) hb); have n3_ := Aside0.mk (hbox); have n4_ := Aside0.mk ((by rw [hg]; exact (keep_size (w := w) (g := g) (row := none) (by repeat (first | (with_reducible first | exact HK.out | apply KeepBut.set_ | apply keep_drewN | apply keep_drew | apply keep_alloc) | exact HK.out))) : w.heap.size ≤ gb124)); have n5_ := Aside0.mk ((Nat.le_trans HW0.out (by rw [hg]; exact (keep_size (w := w) (g := g) (row := none) (by repeat (first | (with_reducible first | exact HK.out | apply KeepBut.set_ | apply keep_drewN | apply keep_drew | apply keep_alloc) | exact HK.out))) : w.heap.size ≤ gb124) : w0.heap.size ≤ gb124)); have n6_ := Aside0.mk ((by rw [hg]; exact Nat.ne_of_lt (IsS63.lt (show IsS63 w0 _ g s0_0 s0_1 s0_2 s0_3 from by repeat (first | (with_reducible first | exact HI0.out | apply IsS63.alloc | apply IsS63.drewN | apply IsS63.drew | apply IsS63.set_0 | apply IsS63.set_1 | apply IsS63.set_2 | apply IsS63.set_3) | exact HI0.out))) : g ≠ gb124)); have n7_ := Aside0.mk ((by rw [hg]; exact Nat.ne_of_gt (IsS63.lt (show IsS63 w0 _ g s0_0 s0_1 s0_2 s0_3 from by repeat (first | (with_reducible first | exact HI0.out | apply IsS63.alloc | apply IsS63.drewN | apply IsS63.drew | apply IsS63.set_0 | apply IsS63.set_1 | apply IsS63.set_2 | apply IsS63.set_3) | exact HI0.out))) : gb124 ≠ g)); clear HI0; clear HK; clear HB; have HI0 := n0_; have HK := n1_; have HB := n2_; have BK124 := n3_; have GW124 := n4_; have GE124 := n5_; have NB0_124 := n6_; have NB124_0 := n7_; clear n0_ n1_ n2_ n3_ n4_ n5_ n6_ n7_; clear hb hbox hg) | ((with_reducible refine gate_dst (N := 4) rfl ?_); refine box_event ?hg (N := 4) ?hd (cs := #[.int .i64 0, .string (⟨#[]⟩ : ByteArray), .bool false]) (t := 41) ?hr ?_; (case hd => rfl); (case hg => rfl); (case hr => first | (go_simp; done) | (go_simp; rfl)); intro gb125 hg w126 hbox hb; have n0_ := Aside0.mk (IsS63.below (by repeat (first | (with_reducible first | exact HI0.out | apply IsS63.alloc | apply IsS63.drewN | apply IsS63.drew | apply IsS63.set_0 | apply IsS63.set_1 | apply IsS63.set_2 | apply IsS63.set_3 | refine IsS63.far ?_ NB0_124.out _ | apply IsS63.far (hne := NB0_124.out)) | exact HI0.out)) hb); have n1_ := Aside0.mk (blk_below (g := gb124) (o := .cells #[.int .i64 a1_0, .int .i64 a1_1, .int .i64 a1_2, .string a1_3] 39 (0, 0)) (by (with_reducible repeat (first | refine blk_drewN ?_ _ | refine blk_drew ?_ | refine blk_alloc ?_ _)); exact BK124.out) hb); have n2_ := Aside0.mk (KeepBut.trans (by repeat (first | (with_reducible first | exact HK.out | apply KeepBut.set_ | apply keep_drewN | apply keep_drew | apply keep_alloc | refine keep_far ?_ GW124.out _) | exact HK.out)) (KeepBut.of_below hb g none) (.inl rfl)); have n3_ := Aside0.mk (below_step (by repeat (first | (with_reducible first | exact HB.out | apply below_alloc | apply pw_below_drewN | apply below_drew1 | refine below_set ?_ (IsS63.ge HI0.out) | refine below_set ?_ GE124.out) | exact HB.out)) hb); have n4_ := Aside0.mk (hbox); have n5_ := Aside0.mk ((by rw [hg]; exact (keep_size (w := w) (g := g) (row := none) (by repeat (first | (with_reducible first | exact HK.out | apply KeepBut.set_ | apply keep_drewN | apply keep_drew | apply keep_alloc | refine keep_far ?_ GW124.out _) | exact HK.out))) : w.heap.size ≤ gb125)); have n6_ := Aside0.mk ((Nat.le_trans HW0.out (by rw [hg]; exact (keep_size (w := w) (g := g) (row := none) (by repeat (first | (with_reducible first | exact HK.out | apply KeepBut.set_ | apply keep_drewN | apply keep_drew | apply keep_alloc | refine keep_far ?_ GW124.out _) | exact HK.out))) : w.heap.size ≤ gb125) : w0.heap.size ≤ gb125)); have n7_ := Aside0.mk ((by rw [hg]; exact Nat.ne_of_lt (blk_lt (g := gb124) (o := .cells #[.int .i64 a1_0, .int .i64 a1_1, .int .i64 a1_2, .string a1_3] 39 (0, 0)) (by (with_reducible repeat (first | refine blk_drewN ?_ _ | refine blk_drew ?_ | refine blk_alloc ?_ _)); exact BK124.out)) : gb124 ≠ gb125)); have n8_ := Aside0.mk ((by rw [hg]; exact Nat.ne_of_gt (blk_lt (g := gb124) (o := .cells #[.int .i64 a1_0, .int .i64 a1_1, .int .i64 a1_2, .string a1_3] 39 (0, 0)) (by (with_reducible repeat (first | refine blk_drewN ?_ _ | refine blk_drew ?_ | refine blk_alloc ?_ _)); exact BK124.out)) : gb125 ≠ gb124)); have n9_ := Aside0.mk ((by rw [hg]; exact Nat.ne_of_lt (IsS63.lt (show IsS63 w0 _ g s0_0 s0_1 s0_2 s0_3 from by repeat (first | (with_reducible first | exact HI0.out | apply IsS63.alloc | apply IsS63.drewN | apply IsS63.drew | apply IsS63.set_0 | apply IsS63.set_1 | apply IsS63.set_2 | apply IsS63.set_3 | refine IsS63.far ?_ NB0_124.out _ | apply IsS63.far (hne := NB0_124.out)) | exact HI0.out))) : g ≠ gb125)); have n10_ := Aside0.mk ((by rw [hg]; exact Nat.ne_of_gt (IsS63.lt (show IsS63 w0 _ g s0_0 s0_1 s0_2 s0_3 from by repeat (first | (with_reducible first | exact HI0.out | apply IsS63.alloc | apply IsS63.drewN | apply IsS63.drew | apply IsS63.set_0 | apply IsS63.set_1 | apply IsS63.set_2 | apply IsS63.set_3 | refine IsS63.far ?_ NB0_124.out _ | apply IsS63.far (hne := NB0_124.out)) | exact HI0.out))) : gb125 ≠ g)); clear HI0; clear BK124; clear HK; clear HB; have HI0 := n0_; have BK124 := n1_; have HK := n2_; have HB := n3_; have BK125 := n4_; have GW125 := n5_; have GE125 := n6_; have NB124_125 := n7_; have NB125_124 := n8_; have NB0_125 := n9_; have NB125_0 := n10_; clear n0_ n1_ n2_ n3_ n4_ n5_ n6_ n7_ n8_ n9_ n10_; clear hb hbox hg; obtain ⟨HGz127, hgz127⟩ := HI0.out; have hcz127_0 := cellS63_0 HGz127; have hcz127_1 := cellS63_1 HGz127; have hcz127_2 := cellS63_2 HGz127; have hcz127_3 := cellS63_3 HGz127; have hfz127_0 := blk_frozen HGz127 0; have hfz127_1 := blk_frozen HGz127 1; have hfz127_2 := blk_frozen HGz127 2; have hfz127_3 := blk_frozen HGz127 3; clear HGz127 hgz127) | ((with_reducible refine gate_dst (N := 7) rfl ?_); refine box_event ?hg (N := 7) ?hd (cs := #[.int .i64 0, .string (⟨#[]⟩ : ByteArray), .bool false]) (t := 41) ?hr ?_; (case hd => rfl); (case hg => rfl); (case hr => first | (go_simp; done) | (go_simp; rfl)); intro gb126 hg w128 hbox hb; have n0_ := Aside0.mk (IsS63.below (by repeat (first | (with_reducible first | exact HI0.out | apply IsS63.alloc | apply IsS63.drewN | apply IsS63.drew | apply IsS63.set_0 | apply IsS63.set_1 | apply IsS63.set_2 | apply IsS63.set_3 | refine IsS63.far ?_ NB0_124.out _ | apply IsS63.far (hne := NB0_124.out) | refine IsS63.far ?_ NB0_125.out _ | apply IsS63.far (hne := NB0_125.out)) | exact HI0.out)) hb); have n1_ := Aside0.mk (blk_below (g := gb124) (o := .cells #[.int .i64 a1_0, .int .i64 a1_1, .int .i64 a1_2, .string a1_3] 39 (0, 0)) (by (with_reducible repeat (first | refine blk_drewN ?_ _ | refine blk_drew ?_ | refine blk_alloc ?_ _)); exact BK124.out) hb); have n2_ := Aside0.mk (blk_below (g := gb125) (o := .cells #[.int .i64 0, .string (⟨#[]⟩ : ByteArray), .bool false] 41 (0, 0)) (by (with_reducible repeat (first | refine blk_drewN ?_ _ | refine blk_drew ?_ | refine blk_alloc ?_ _)); exact BK125.out) hb); have n3_ := Aside0.mk (KeepBut.trans (by repeat (first | (with_reducible first | exact HK.out | apply KeepBut.set_ | apply keep_drewN | apply keep_drew | apply keep_alloc | refine keep_far ?_ GW124.out _ | refine keep_far ?_ GW125.out _) | exact HK.out)) (KeepBut.of_below hb g none) (.inl rfl)); have n4_ := Aside0.mk (below_step (by repeat (first | (with_reducible first | exact HB.out | apply below_alloc | apply pw_below_drewN | apply below_drew1 | refine below_set ?_ (IsS63.ge HI0.out) | refine below_set ?_ GE124.out | refine below_set ?_ GE125.out) | exact HB.out)) hb); have n5_ := Aside0.mk (hbox); have n6_ := Aside0.mk ((by rw [hg]; exact (keep_size (w := w) (g := g) (row := none) (by repeat (first | (with_reducible first | exact HK.out | apply KeepBut.set_ | apply keep_drewN | apply keep_drew | apply keep_alloc | refine keep_far ?_ GW124.out _ | refine keep_far ?_ GW125.out _) | exact HK.out))) : w.heap.size ≤ gb126)); have n7_ := Aside0.mk ((Nat.le_trans HW0.out (by rw [hg]; exact (keep_size (w := w) (g := g) (row := none) (by repeat (first | (with_reducible first | exact HK.out | apply KeepBut.set_ | apply keep_drewN | apply keep_drew | apply keep_alloc | refine keep_far ?_ GW124.out _ | refine keep_far ?_ GW125.out _) | exact HK.out))) : w.heap.size ≤ gb126) : w0.heap.size ≤ gb126)); have n8_ := Aside0.mk ((by rw [hg]; exact Nat.ne_of_lt (blk_lt (g := gb124) (o := .cells #[.int .i64 a1_0, .int .i64 a1_1, .int .i64 a1_2, .string a1_3] 39 (0, 0)) (by (with_reducible repeat (first | refine blk_drewN ?_ _ | refine blk_drew ?_ | refine blk_alloc ?_ _)); exact BK124.out)) : gb124 ≠ gb126)); have n9_ := Aside0.mk ((by rw [hg]; exact Nat.ne_of_gt (blk_lt (g := gb124) (o := .cells #[.int .i64 a1_0, .int .i64 a1_1, .int .i64 a1_2, .string a1_3] 39 (0, 0)) (by (with_reducible repeat (first | refine blk_drewN ?_ _ | refine blk_drew ?_ | refine blk_alloc ?_ _)); exact BK124.out)) : gb126 ≠ gb124)); have n10_ := Aside0.mk ((by rw [hg]; exact Nat.ne_of_lt (blk_lt (g := gb125) (o := .cells #[.int .i64 0, .string (⟨#[]⟩ : ByteArray), .bool false] 41 (0, 0)) (by (with_reducible repeat (first | refine blk_drewN ?_ _ | refine blk_drew ?_ | refine blk_alloc ?_ _)); exact BK125.out)) : gb125 ≠ gb126)); have n11_ := Aside0.mk ((by rw [hg]; exact Nat.ne_of_gt (blk_lt (g := gb125) (o := .cells #[.int .i64 0, .string (⟨#[]⟩ : ByteArray), .bool false] 41 (0, 0)) (by (with_reducible repeat (first | refine blk_drewN ?_ _ | refine blk_drew ?_ | refine blk_alloc ?_ _)); exact BK125.out)) : gb126 ≠ gb125)); have n12_ := Aside0.mk ((by rw [hg]; exact Nat.ne_of_lt (IsS63.lt (show IsS63 w0 _ g s0_0 s0_1 s0_2 s0_3 from by repeat (first | (with_reducible first | exact HI0.out | apply IsS63.alloc | apply IsS63.drewN | apply IsS63.drew | apply IsS63.set_0 | apply IsS63.set_1 | apply IsS63.set_2 | apply IsS63.set_3 | refine IsS63.far ?_ NB0_124.out _ | apply IsS63.far (hne := NB0_124.out) | refine IsS63.far ?_ NB0_125.out _ | apply IsS63.far (hne := NB0_125.out)) | exact HI0.out))) : g ≠ gb126)); have n13_ := Aside0.mk ((by rw [hg]; exact Nat.ne_of_gt (IsS63.lt (show IsS63 w0 _ g s0_0 s0_1 s0_2 s0_3 from by repeat (first | (with_reducible first | exact HI0.out | apply IsS63.alloc | apply IsS63.drewN | apply IsS63.drew | apply IsS63.set_0 | apply IsS63.set_1 | apply IsS63.set_2 | apply IsS63.set_3 | refine IsS63.far ?_ NB0_124.out _ | apply IsS63.far (hne := NB0_124.out) | refine IsS63.far ?_ NB0_125.out _ | apply IsS63.far (hne := NB0_125.out)) | exact HI0.out))) : gb126 ≠ g)); clear HI0; clear BK124; clear BK125; clear HK; clear HB; have HI0 := n0_; have BK124 := n1_; have BK125 := n2_; have HK := n3_; have HB := n4_; have BK126 := n5_; have GW126 := n6_; have GE126 := n7_; have NB124_126 := n8_; have NB126_124 := n9_; have NB125_126 := n10_; have NB126_125 := n11_; have NB0_126 := n12_; have NB126_0 := n13_; clear n0_ n1_ n2_ n3_ n4_ n5_ n6_ n7_ n8_ n9_ n10_ n11_ n12_ n13_; clear hb hbox hg; have hnb129 := NB126_124.out; have hnc129 := NB124_126.out; have hnb130 := NB126_125.out; have hnc130 := NB125_126.out; have hnb131 := NB126_0.out; have hnc131 := NB0_126.out; have hcz132_0 : w128.cell? ⟨gb126, 0, none⟩ = some (.int .i64 0) := (blk_cell BK126.out 0).trans rfl; have hcz132_1 : w128.cell? ⟨gb126, 1, none⟩ = some (.string (⟨#[]⟩ : ByteArray)) := (blk_cell BK126.out 1).trans rfl; have hcz132_2 : w128.cell? ⟨gb126, 2, none⟩ = some (.bool false) := (blk_cell BK126.out 2).trans rfl; have hfz132_0 := blk_frozen BK126.out 0; have hfz132_1 := blk_frozen BK126.out 1; have hfz132_2 := blk_frozen BK126.out 2; have hnb133 := NB124_125.out; have hnc133 := NB125_124.out; have hnb134 := NB124_0.out; have hnc134 := NB0_124.out; have hcz135_0 : w128.cell? ⟨gb124, 0, none⟩ = some (.int .i64 a1_0) := (blk_cell BK124.out 0).trans rfl; have hcz135_1 : w128.cell? ⟨gb124, 1, none⟩ = some (.int .i64 a1_1) := (blk_cell BK124.out 1).trans rfl; have hcz135_2 : w128.cell? ⟨gb124, 2, none⟩ = some (.int .i64 a1_2) := (blk_cell BK124.out 2).trans rfl; have hcz135_3 : w128.cell? ⟨gb124, 3, none⟩ = some (.string a1_3) := (blk_cell BK124.out 3).trans rfl; have hfz135_0 := blk_frozen BK124.out 0; have hfz135_1 := blk_frozen BK124.out 1; have hfz135_2 := blk_frozen BK124.out 2; have hfz135_3 := blk_frozen BK124.out 3) | ((with_reducible refine gate_callee (f := 46) rfl ?_); refine goesL_ (some 19) rfl rfl Try.func46 (by kernel_rfl) rfl #[.agg #[.int .i64 a1_0, .int .i64 a1_1, .int .i64 a1_2, .string a1_3]] rfl (by (try simp only [List.map_toArray, List.map_cons, List.map_nil]); first | done | rfl | (simp only [List.length_drop, List.length_take]; rfl)) ?_; (with_reducible refine (rule_Check.calls k a1_0 a1_1 a1_2 a1_3 t127 t128 _ A3.out).mono ?_); rintro e w136 ⟨rfl, hb⟩; refine ⟨_, rfl, ?_⟩; have n0_ := Aside0.mk (IsS63.below (show IsS63 w0 (((w128.setCell ⟨gb126, 0, none⟩ (.int .i64 s0_1)).setCell ⟨gb126, 1, none⟩ (.string s0_2)).setCell ⟨gb126, 2, none⟩ (.bool s0_3)) g s0_0 s0_1 s0_2 s0_3 from by repeat (first | (with_reducible first | exact HI0.out | apply IsS63.alloc | apply IsS63.drewN | apply IsS63.drew | apply IsS63.set_0 | apply IsS63.set_1 | apply IsS63.set_2 | apply IsS63.set_3 | refine IsS63.far ?_ NB0_124.out _ | apply IsS63.far (hne := NB0_124.out) | refine IsS63.far ?_ NB0_125.out _ | apply IsS63.far (hne := NB0_125.out) | refine IsS63.far ?_ NB0_126.out _ | apply IsS63.far (hne := NB0_126.out)) | exact HI0.out)) hb); have n1_ := Aside0.mk (blk_below (g := gb124) (o := .cells #[.int .i64 a1_0, .int .i64 a1_1, .int .i64 a1_2, .string a1_3] 39 (0, 0)) (by (with_reducible repeat (first | refine blk_drewN ?_ _ | refine blk_drew ?_ | refine blk_alloc ?_ _)); refine blk_far ?_ NB124_126.out _; (with_reducible repeat (first | refine blk_drewN ?_ _ | refine blk_drew ?_ | refine blk_alloc ?_ _)); refine blk_far ?_ NB124_126.out _; (with_reducible repeat (first | refine blk_drewN ?_ _ | refine blk_drew ?_ | refine blk_alloc ?_ _)); refine blk_far ?_ NB124_126.out _; (with_reducible repeat (first | refine blk_drewN ?_ _ | refine blk_drew ?_ | refine blk_alloc ?_ _)); exact BK124.out) hb); have n2_ := Aside0.mk (blk_below (g := gb125) (o := .cells #[.int .i64 0, .string (⟨#[]⟩ : ByteArray), .bool false] 41 (0, 0)) (by (with_reducible repeat (first | refine blk_drewN ?_ _ | refine blk_drew ?_ | refine blk_alloc ?_ _)); refine blk_far ?_ NB125_126.out _; (with_reducible repeat (first | refine blk_drewN ?_ _ | refine blk_drew ?_ | refine blk_alloc ?_ _)); refine blk_far ?_ NB125_126.out _; (with_reducible repeat (first | refine blk_drewN ?_ _ | refine blk_drew ?_ | refine blk_alloc ?_ _)); refine blk_far ?_ NB125_126.out _; (with_reducible repeat (first | refine blk_drewN ?_ _ | refine blk_drew ?_ | refine blk_alloc ?_ _)); exact BK125.out) hb); have n3_ := Aside0.mk (blk_below (g := gb126) (o := .cells #[.int .i64 s0_1, .string s0_2, .bool s0_3] 41 (0, 0)) (by (with_reducible repeat (first | refine blk_drewN ?_ _ | refine blk_drew ?_ | refine blk_alloc ?_ _)); refine blk_put (cs := #[.int .i64 s0_1, .string s0_2, .bool false]) ?_ 2 _ rfl; (with_reducible repeat (first | refine blk_drewN ?_ _ | refine blk_drew ?_ | refine blk_alloc ?_ _)); refine blk_put (cs := #[.int .i64 s0_1, .string (⟨#[]⟩ : ByteArray), .bool false]) ?_ 1 _ rfl; (with_reducible repeat (first | refine blk_drewN ?_ _ | refine blk_drew ?_ | refine blk_alloc ?_ _)); refine blk_put (cs := #[.int .i64 0, .string (⟨#[]⟩ : ByteArray), .bool false]) ?_ 0 _ rfl; (with_reducible repeat (first | refine blk_drewN ?_ _ | refine blk_drew ?_ | refine blk_alloc ?_ _)); exact BK126.out) hb); have n4_ := Aside0.mk (KeepBut.trans (by repeat (first | (with_reducible first | exact HK.out | apply KeepBut.set_ | apply keep_drewN | apply keep_drew | apply keep_alloc | refine keep_far ?_ GW124.out _ | refine keep_far ?_ GW125.out _ | refine keep_far ?_ GW126.out _) | exact HK.out)) (KeepBut.of_below hb g none) (.inl rfl)); have n5_ := Aside0.mk (below_step (by repeat (first | (with_reducible first | exact HB.out | apply below_alloc | apply pw_below_drewN | apply below_drew1 | refine below_set ?_ (IsS63.ge HI0.out) | refine below_set ?_ GE124.out | refine below_set ?_ GE125.out | refine below_set ?_ GE126.out) | exact HB.out)) hb); clear HI0; clear BK124; clear BK125; clear BK126; clear HK; clear HB; have HI0 := n0_; have BK124 := n1_; have BK125 := n2_; have BK126 := n3_; have HK := n4_; have HB := n5_; clear n0_ n1_ n2_ n3_ n4_ n5_; (try clear hb); (try clear hb2); (try clear hk); (try clear hi); have hcz137_0 : w136.cell? ⟨gb124, 0, none⟩ = some (.int .i64 a1_0) := (blk_cell BK124.out 0).trans rfl; have hcz137_1 : w136.cell? ⟨gb124, 1, none⟩ = some (.int .i64 a1_1) := (blk_cell BK124.out 1).trans rfl; have hcz137_2 : w136.cell? ⟨gb124, 2, none⟩ = some (.int .i64 a1_2) := (blk_cell BK124.out 2).trans rfl; have hcz137_3 : w136.cell? ⟨gb124, 3, none⟩ = some (.string a1_3) := (blk_cell BK124.out 3).trans rfl; have hfz137_0 := blk_frozen BK124.out 0; have hfz137_1 := blk_frozen BK124.out 1; have hfz137_2 := blk_frozen BK124.out 2; have hfz137_3 := blk_frozen BK124.out 3) | ((with_reducible refine gate_callee (f := 47) rfl ?_); refine goesL_ (some 24) rfl rfl Try.func47 (by kernel_rfl) rfl #[.agg #[.int .i64 a1_0, .int .i64 a1_1, .int .i64 a1_2, .string a1_3]] rfl (by (try simp only [List.map_toArray, List.map_cons, List.map_nil]); first | done | rfl | (simp only [List.length_drop, List.length_take]; rfl)) ?_; (with_reducible refine (frame_Strip.calls k a1_0 a1_1 a1_2 a1_3 t129 t130 t131 _ A4.out).mono ?_); rintro e w138 ⟨rfl, hb⟩; refine ⟨_, rfl, ?_⟩; have n0_ := Aside0.mk (IsS63.below (by repeat (first | (with_reducible first | exact HI0.out | apply IsS63.alloc | apply IsS63.drewN | apply IsS63.drew | apply IsS63.set_0 | apply IsS63.set_1 | apply IsS63.set_2 | apply IsS63.set_3 | refine IsS63.far ?_ NB0_124.out _ | apply IsS63.far (hne := NB0_124.out) | refine IsS63.far ?_ NB0_125.out _ | apply IsS63.far (hne := NB0_125.out) | refine IsS63.far ?_ NB0_126.out _ | apply IsS63.far (hne := NB0_126.out)) | exact HI0.out)) hb); have n1_ := Aside0.mk (blk_below (g := gb124) (o := .cells #[.int .i64 a1_0, .int .i64 a1_1, .int .i64 a1_2, .string a1_3] 39 (0, 0)) (by (with_reducible repeat (first | refine blk_drewN ?_ _ | refine blk_drew ?_ | refine blk_alloc ?_ _)); exact BK124.out) hb); have n2_ := Aside0.mk (blk_below (g := gb125) (o := .cells #[.int .i64 0, .string (⟨#[]⟩ : ByteArray), .bool false] 41 (0, 0)) (by (with_reducible repeat (first | refine blk_drewN ?_ _ | refine blk_drew ?_ | refine blk_alloc ?_ _)); exact BK125.out) hb); have n3_ := Aside0.mk (blk_below (g := gb126) (o := .cells #[.int .i64 s0_1, .string s0_2, .bool s0_3] 41 (0, 0)) (by (with_reducible repeat (first | refine blk_drewN ?_ _ | refine blk_drew ?_ | refine blk_alloc ?_ _)); exact BK126.out) hb); have n4_ := Aside0.mk (KeepBut.trans (by repeat (first | (with_reducible first | exact HK.out | apply KeepBut.set_ | apply keep_drewN | apply keep_drew | apply keep_alloc | refine keep_far ?_ GW124.out _ | refine keep_far ?_ GW125.out _ | refine keep_far ?_ GW126.out _) | exact HK.out)) (KeepBut.of_below hb g none) (.inl rfl)); have n5_ := Aside0.mk (below_step (by repeat (first | (with_reducible first | exact HB.out | apply below_alloc | apply pw_below_drewN | apply below_drew1 | refine below_set ?_ (IsS63.ge HI0.out) | refine below_set ?_ GE124.out | refine below_set ?_ GE125.out | refine below_set ?_ GE126.out) | exact HB.out)) hb); clear HI0; clear BK124; clear BK125; clear BK126; clear HK; clear HB; have HI0 := n0_; have BK124 := n1_; have BK125 := n2_; have BK126 := n3_; have HK := n4_; have HB := n5_; clear n0_ n1_ n2_ n3_ n4_ n5_; (try clear hb); (try clear hb2); (try clear hk); (try clear hi); have hnb139 := NB125_0.out; have hnc139 := NB0_125.out; have hcz140_0 : w138.cell? ⟨gb125, 0, none⟩ = some (.int .i64 0) := (blk_cell BK125.out 0).trans rfl; have hcz140_1 : w138.cell? ⟨gb125, 1, none⟩ = some (.string (⟨#[]⟩ : ByteArray)) := (blk_cell BK125.out 1).trans rfl; have hcz140_2 : w138.cell? ⟨gb125, 2, none⟩ = some (.bool false) := (blk_cell BK125.out 2).trans rfl; have hfz140_0 := blk_frozen BK125.out 0; have hfz140_1 := blk_frozen BK125.out 1; have hfz140_2 := blk_frozen BK125.out 2))
  refine bodyPost_ret (results_ctt rfl _ _ gb125 41 #[.int .i64 0, .string (⟨#[]⟩ : ByteArray), .bool false] (0, 0) _ rfl (by (with_reducible repeat (first | refine blk_drewN ?_ _ | refine blk_drew ?_ | refine blk_alloc ?_ _)); refine blk_put (cs := #[.int .i64 0, .string (⟨#[]⟩ : ByteArray), .bool false]) ?_ 2 _ rfl; (with_reducible repeat (first | refine blk_drewN ?_ _ | refine blk_drew ?_ | refine blk_alloc ?_ _)); refine blk_put (cs := #[.int .i64 0, .string (⟨#[]⟩ : ByteArray), .bool false]) ?_ 1 _ rfl; (with_reducible repeat (first | refine blk_drewN ?_ _ | refine blk_drew ?_ | refine blk_alloc ?_ _)); refine blk_put (cs := #[.int .i64 0, .string (⟨#[]⟩ : ByteArray), .bool false]) ?_ 0 _ rfl; (with_reducible repeat (first | refine blk_drewN ?_ _ | refine blk_drew ?_ | refine blk_alloc ?_ _)); exact BK125.out) Try.underlying41 rfl (by kernel_rfl)) rfl ?_
  exact ⟨by first | rfl | (simp [errW_none, errW_some] <;> rfl) | (simp [*, errW_none, errW_some] <;> rfl), by repeat (first | (with_reducible first | exact HI0.out | apply IsS63.alloc | apply IsS63.drewN | apply IsS63.drew | apply IsS63.set_0 | apply IsS63.set_1 | apply IsS63.set_2 | apply IsS63.set_3 | refine IsS63.far ?_ NB0_124.out _ | apply IsS63.far (hne := NB0_124.out) | refine IsS63.far ?_ NB0_125.out _ | apply IsS63.far (hne := NB0_125.out) | refine IsS63.far ?_ NB0_126.out _ | apply IsS63.far (hne := NB0_126.out)) | exact HI0.out), by repeat (first | (with_reducible first | exact HB.out | apply below_alloc | apply pw_below_drewN | apply below_drew1 | refine below_set ?_ (IsS63.ge HI0.out) | refine below_set ?_ GE124.out | refine below_set ?_ GE125.out | refine below_set ?_ GE126.out) | exact HB.out), by repeat (first | (with_reducible first | exact HK.out | apply KeepBut.set_ | apply keep_drewN | apply keep_drew | apply keep_alloc | refine keep_far ?_ GW124.out _ | refine keep_far ?_ GW125.out _ | refine keep_far ?_ GW126.out _) | exact HK.out)⟩

end Go.Proofs.Ytdonanibfifodaa.PBlockTells
