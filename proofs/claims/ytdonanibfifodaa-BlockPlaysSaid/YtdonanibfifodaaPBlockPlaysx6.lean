-- Written by a program of this session (the kit's printer, turned): the functions that the law reaches.
import Derived.Test.YtdonanibfifodaaPBlockPlaysx0
namespace Go.Proofs.Ytdonanibfifodaa.PBlockPlays
open Go.RowKit Go.Proofs.YtdonanibfifodaaW.PrintWords Go.Proofs.YtdonanibfifodaaW.PrintLast Go.Proofs.YtdonanibfifodaaW.PrintMore
attribute [local go_sem] max2_int min2_int max_two min_two max_three min_three max_four min_four   -- for this text's walks alone
set_option linter.unusedVariables false
set_option linter.unusedSimpArgs false

/-! ### bywashref1_Strip: function 45 -/
mutual
def bywashref1_Strip.j0 : Nat → ByteArray → Bool → Int → Int → Int → ByteArray → Option (ByteArray × Int × Int)
 | 0, _, _, _, _, _, _ => none
 | k + 1, x5, x15, x185000, x185001, x185002, x185003 => if x15 = true then (some (x5, 0, 0)) else (if (Go.bits .and .i64 x185001 8) = 0 then (bywashref1_Strip.j1 k x5 x185000 x185001 x185002 x185003) else (if x5.toList = ([] : List UInt8) then (some ((⟨#[]⟩ : ByteArray), 0, 11)) else (if 0 < (x5.size : Int) then (if (wrap64 (bt x5 0)) > (wrap64 ((x5.size : Int) - 1)) then (some ((⟨#[]⟩ : ByteArray), 0, 11)) else (if 1 ≤ (wrap64 ((x5.size : Int) - (wrap64 (bt x5 0)))) then (if (wrap64 ((x5.size : Int) - (wrap64 (bt x5 0)))) ≤ (x5.size : Int) then (bywashref1_Strip.j1 k (x5.extract 1 ((wrap64 ((x5.size : Int) - (wrap64 (bt x5 0)))) : Int).toNat) x185000 x185001 x185002 x185003) else (none)) else (none))) else (none))))
def bywashref1_Strip.j1 : Nat → ByteArray → Int → Int → Int → ByteArray → Option (ByteArray × Int × Int)
 | 0, _, _, _, _, _ => none
 | k + 1, x5, x185000, x185001, x185002, x185003 => if x185000 = 1 then (bywashref1_Strip.j2 k x5 ((Go.bits .and .i64 x185001 32) != 0) x185000 x185001 x185002 x185003) else (bywashref1_Strip.j2 k x5 false x185000 x185001 x185002 x185003)
def bywashref1_Strip.j2 : Nat → ByteArray → Bool → Int → Int → Int → ByteArray → Option (ByteArray × Int × Int)
 | 0, _, _, _, _, _, _ => none
 | k + 1, x5, x48, x185000, x185001, x185002, x185003 => if x48 = true then (if (x5.size : Int) < 5 then (some ((⟨#[]⟩ : ByteArray), 0, 5)) else (if 5 ≤ (x5.size : Int) then (some (x5.extract 5 x5.size, wrap64 ((x185003.size : Int) - ((x5.extract 5 x5.size).size : Int)), 0)) else (none))) else (some (x5, wrap64 ((x185003.size : Int) - (x5.size : Int)), 0))
end
def bywashref1_Strip.f (k : Nat) (a0_0 : Int) (a0_1 : Int) (a0_2 : Int) (a0_3 : ByteArray) : Option (ByteArray × Int × Int) := if a0_0 = 0 then (bywashref1_Strip.j0 k a0_3 false a0_0 a0_1 a0_2 a0_3) else (bywashref1_Strip.j0 k a0_3 (a0_0 != 1) a0_0 a0_1 a0_2 a0_3)
theorem bywashref1_Strip.mono_l : ∀ k, (∀ y0 y1 y2 y3 y4 y5, LeO (bywashref1_Strip.j0 k y0 y1 y2 y3 y4 y5) (bywashref1_Strip.j0 (k + 1) y0 y1 y2 y3 y4 y5)) ∧ (∀ y0 y1 y2 y3 y4, LeO (bywashref1_Strip.j1 k y0 y1 y2 y3 y4) (bywashref1_Strip.j1 (k + 1) y0 y1 y2 y3 y4)) ∧ (∀ y0 y1 y2 y3 y4 y5, LeO (bywashref1_Strip.j2 k y0 y1 y2 y3 y4 y5) (bywashref1_Strip.j2 (k + 1) y0 y1 y2 y3 y4 y5))
 | 0 => ⟨fun _ _ _ _ _ _ r h => by simp [bywashref1_Strip.j0] at h, fun _ _ _ _ _ r h => by simp [bywashref1_Strip.j1] at h, fun _ _ _ _ _ _ r h => by simp [bywashref1_Strip.j2] at h⟩
 | k + 1 => by
  obtain ⟨ih0, ih1, ih2⟩ := bywashref1_Strip.mono_l k
  refine ⟨?_, ?_, ?_⟩
  ·intro y0 y1 y2 y3 y4 y5
   unfold bywashref1_Strip.j0
   repeat' first
   | (with_reducible exact ih0 _ _ _ _ _ _)
   | (with_reducible exact ih1 _ _ _ _ _)
   | (with_reducible exact ih2 _ _ _ _ _ _)
   | (with_reducible exact LeO.refl _)
   | (with_reducible exact LeO.none _)
   | (with_reducible refine LeO.ite ?_ ?_)
   | (with_reducible refine LeO.bind ?_ (fun _ => ?_))
   | exact ih0 _ _ _ _ _ _
   | exact ih1 _ _ _ _ _
   | exact ih2 _ _ _ _ _ _
   | exact LeO.none _
   | refine LeO.ite ?_ ?_
   | refine LeO.bind ?_ (fun _ => ?_)
  ·intro y0 y1 y2 y3 y4
   unfold bywashref1_Strip.j1
   repeat' first
   | (with_reducible exact ih0 _ _ _ _ _ _)
   | (with_reducible exact ih1 _ _ _ _ _)
   | (with_reducible exact ih2 _ _ _ _ _ _)
   | (with_reducible exact LeO.refl _)
   | (with_reducible exact LeO.none _)
   | (with_reducible refine LeO.ite ?_ ?_)
   | (with_reducible refine LeO.bind ?_ (fun _ => ?_))
   | exact ih0 _ _ _ _ _ _
   | exact ih1 _ _ _ _ _
   | exact ih2 _ _ _ _ _ _
   | exact LeO.none _
   | refine LeO.ite ?_ ?_
   | refine LeO.bind ?_ (fun _ => ?_)
  ·intro y0 y1 y2 y3 y4 y5
   unfold bywashref1_Strip.j2
   repeat' first
   | (with_reducible exact ih0 _ _ _ _ _ _)
   | (with_reducible exact ih1 _ _ _ _ _)
   | (with_reducible exact ih2 _ _ _ _ _ _)
   | (with_reducible exact LeO.refl _)
   | (with_reducible exact LeO.none _)
   | (with_reducible refine LeO.ite ?_ ?_)
   | (with_reducible refine LeO.bind ?_ (fun _ => ?_))
   | exact ih0 _ _ _ _ _ _
   | exact ih1 _ _ _ _ _
   | exact ih2 _ _ _ _ _ _
   | exact LeO.none _
   | refine LeO.ite ?_ ?_
   | refine LeO.bind ?_ (fun _ => ?_)
theorem bywashref1_Strip.mono : ∀ a0 a1 a2 a3 k, LeO (bywashref1_Strip.f k a0 a1 a2 a3) (bywashref1_Strip.f (k + 1) a0 a1 a2 a3) := by
 intro a0 a1 a2 a3 k
 obtain ⟨ih0, ih1, ih2⟩ := bywashref1_Strip.mono_l k
 unfold bywashref1_Strip.f
 repeat' first
   | (with_reducible exact ih0 _ _ _ _ _ _)
   | (with_reducible exact ih1 _ _ _ _ _)
   | (with_reducible exact ih2 _ _ _ _ _ _)
   | (with_reducible exact LeO.refl _)
   | (with_reducible exact LeO.none _)
   | (with_reducible refine LeO.ite ?_ ?_)
   | (with_reducible refine LeO.bind ?_ (fun _ => ?_))
   | exact ih0 _ _ _ _ _ _
   | exact ih1 _ _ _ _ _
   | exact ih2 _ _ _ _ _ _
   | exact LeO.none _
   | refine LeO.ite ?_ ?_
   | refine LeO.bind ?_ (fun _ => ?_)
set_option maxHeartbeats 8000000 in
set_option maxRecDepth 100000 in
theorem bywashref1_Strip.calls (k : Nat) (a0_0 : Int) (a0_1 : Int) (a0_2 : Int) (a0_3 : ByteArray) (r1 : ByteArray) (r2 : Int) (r3 : Int) (w : World) (h : bywashref1_Strip.f k a0_0 a0_1 a0_2 a0_3 = some (r1, r2, r3)) :
  Calls Try.prog 45 #[.agg #[.int .i64 a0_0, .int .i64 a0_1, .int .i64 a0_2, .string a0_3]] w fun e w' => e = .returned (.tuple #[.string r1, .int .i64 r2, .int .i64 r3]) ∧ Below w.heap.size w w' := by
 have hu39 := Try.underlying39
 have HB := Aside0.mk (Below.refl w.heap.size w)
 have H : (if a0_0 = 0 then (bywashref1_Strip.j0 k a0_3 false a0_0 a0_1 a0_2 a0_3) else (bywashref1_Strip.j0 k a0_3 (a0_0 != 1) a0_0 a0_1 a0_2 a0_3)) = some (r1, r2, r3) := h
 clear h
 have HC2 := Aside0.mk H
 clear H
 go_enter Try.func45, Try.ntmps45
 go_upto_region 2 with (first | ((with_reducible refine gate_dst (N := 1) rfl ?_); (try (refine gate_guard (by rfl) ?_; dsimp only)); refine box_event ?hg (N := 1) ?hd (cs := #[.int .i64 a0_0, .int .i64 a0_1, .int .i64 a0_2, .string a0_3]) (t := 39) ?hr ?_; (case hd => rfl); (case hg => rfl); (case hr => first | (go_simp; done) | (go_simp; rfl)); intro gb184 hg w3 hbox hb; have n0_ := Aside0.mk (below_step (by repeat (first | (with_reducible first | exact HB.out | apply below_alloc | apply pw_below_drewN | apply below_drew1) | exact HB.out)) hb); have n1_ := Aside0.mk (hbox); have n2_ := Aside0.mk ((by rw [hg]; exact (below_size (by repeat (first | (with_reducible first | exact HB.out | apply below_alloc | apply pw_below_drewN | apply below_drew1) | exact HB.out))) : w.heap.size ≤ gb184)); have n3_ := Aside0.mk ((by rw [hg]; exact (below_size (by repeat (first | (with_reducible first | exact HB.out | apply below_alloc | apply pw_below_drewN | apply below_drew1) | exact HB.out))) : w.heap.size ≤ gb184)); clear HB; have HB := n0_; have BK184 := n1_; have GW184 := n2_; have GE184 := n3_; clear n0_ n1_ n2_ n3_; clear hb hbox hg; have hcz4_0 : w3.cell? ⟨gb184, 0, none⟩ = some (.int .i64 a0_0) := (blk_cell BK184.out 0).trans rfl; have hcz4_1 : w3.cell? ⟨gb184, 1, none⟩ = some (.int .i64 a0_1) := (blk_cell BK184.out 1).trans rfl; have hcz4_2 : w3.cell? ⟨gb184, 2, none⟩ = some (.int .i64 a0_2) := (blk_cell BK184.out 2).trans rfl; have hcz4_3 : w3.cell? ⟨gb184, 3, none⟩ = some (.string a0_3) := (blk_cell BK184.out 3).trans rfl; have hfz4_0 := blk_frozen BK184.out 0; have hfz4_1 := blk_frozen BK184.out 1; have hfz4_2 := blk_frozen BK184.out 2; have hfz4_3 := blk_frozen BK184.out 3))
 repeat (go_quiet (first | ((with_reducible refine gate_dst (N := 1) rfl ?_); (try (refine gate_guard (by rfl) ?_; dsimp only)); refine box_event ?hg (N := 1) ?hd (cs := #[.int .i64 a0_0, .int .i64 a0_1, .int .i64 a0_2, .string a0_3]) (t := 39) ?hr ?_; (case hd => rfl); (case hg => rfl); (case hr => first | (go_simp; done) | (go_simp; rfl)); intro gb184 hg w3 hbox hb; have n0_ := Aside0.mk (below_step (by repeat (first | (with_reducible first | exact HB.out | apply below_alloc | apply pw_below_drewN | apply below_drew1) | exact HB.out)) hb); have n1_ := Aside0.mk (hbox); have n2_ := Aside0.mk ((by rw [hg]; exact (below_size (by repeat (first | (with_reducible first | exact HB.out | apply below_alloc | apply pw_below_drewN | apply below_drew1) | exact HB.out))) : w.heap.size ≤ gb184)); have n3_ := Aside0.mk ((by rw [hg]; exact (below_size (by repeat (first | (with_reducible first | exact HB.out | apply below_alloc | apply pw_below_drewN | apply below_drew1) | exact HB.out))) : w.heap.size ≤ gb184)); clear HB; have HB := n0_; have BK184 := n1_; have GW184 := n2_; have GE184 := n3_; clear n0_ n1_ n2_ n3_; clear hb hbox hg; have hcz4_0 : w3.cell? ⟨gb184, 0, none⟩ = some (.int .i64 a0_0) := (blk_cell BK184.out 0).trans rfl; have hcz4_1 : w3.cell? ⟨gb184, 1, none⟩ = some (.int .i64 a0_1) := (blk_cell BK184.out 1).trans rfl; have hcz4_2 : w3.cell? ⟨gb184, 2, none⟩ = some (.int .i64 a0_2) := (blk_cell BK184.out 2).trans rfl; have hcz4_3 : w3.cell? ⟨gb184, 3, none⟩ = some (.string a0_3) := (blk_cell BK184.out 3).trans rfl; have hfz4_0 := blk_frozen BK184.out 0; have hfz4_1 := blk_frozen BK184.out 1; have hfz4_2 := blk_frozen BK184.out 2; have hfz4_3 := blk_frozen BK184.out 3)); go_upto_region 2 with (first | ((with_reducible refine gate_dst (N := 1) rfl ?_); (try (refine gate_guard (by rfl) ?_; dsimp only)); refine box_event ?hg (N := 1) ?hd (cs := #[.int .i64 a0_0, .int .i64 a0_1, .int .i64 a0_2, .string a0_3]) (t := 39) ?hr ?_; (case hd => rfl); (case hg => rfl); (case hr => first | (go_simp; done) | (go_simp; rfl)); intro gb184 hg w3 hbox hb; have n0_ := Aside0.mk (below_step (by repeat (first | (with_reducible first | exact HB.out | apply below_alloc | apply pw_below_drewN | apply below_drew1) | exact HB.out)) hb); have n1_ := Aside0.mk (hbox); have n2_ := Aside0.mk ((by rw [hg]; exact (below_size (by repeat (first | (with_reducible first | exact HB.out | apply below_alloc | apply pw_below_drewN | apply below_drew1) | exact HB.out))) : w.heap.size ≤ gb184)); have n3_ := Aside0.mk ((by rw [hg]; exact (below_size (by repeat (first | (with_reducible first | exact HB.out | apply below_alloc | apply pw_below_drewN | apply below_drew1) | exact HB.out))) : w.heap.size ≤ gb184)); clear HB; have HB := n0_; have BK184 := n1_; have GW184 := n2_; have GE184 := n3_; clear n0_ n1_ n2_ n3_; clear hb hbox hg; have hcz4_0 : w3.cell? ⟨gb184, 0, none⟩ = some (.int .i64 a0_0) := (blk_cell BK184.out 0).trans rfl; have hcz4_1 : w3.cell? ⟨gb184, 1, none⟩ = some (.int .i64 a0_1) := (blk_cell BK184.out 1).trans rfl; have hcz4_2 : w3.cell? ⟨gb184, 2, none⟩ = some (.int .i64 a0_2) := (blk_cell BK184.out 2).trans rfl; have hcz4_3 : w3.cell? ⟨gb184, 3, none⟩ = some (.string a0_3) := (blk_cell BK184.out 3).trans rfl; have hfz4_0 := blk_frozen BK184.out 0; have hfz4_1 := blk_frozen BK184.out 1; have hfz4_2 := blk_frozen BK184.out 2; have hfz4_3 := blk_frozen BK184.out 3)))
 (try simp only [Act.put, List.setIfInBounds_toArray, List.set_cons_zero, List.set_cons_succ])
 go_cut [15] (fun v15 wc => ∃ (kq : Nat) (x15_1 : Bool), v15 = .bool x15_1 ∧ Aside0 (bywashref1_Strip.j0 kq a0_3 x15_1 a0_0 a0_1 a0_2 a0_3 = some (r1, r2, r3)) ∧ Aside0 (kq ≤ k) ∧ Aside0 (wc.heap[gb184]? = some (.cells #[.int .i64 a0_0, .int .i64 a0_1, .int .i64 a0_2, .string a0_3] 39 (0, 0))) ∧ Aside0 (Below w.heap.size w wc))
 case first =>
  have H := HC2.out
  clear HC2
  by_cases c5 : a0_0 = 0
  ·rw [if_pos c5] at H
   have c5b0 : (a0_0 == 0) = true := beq_iff_eq.mpr c5
   have c5b1 : (a0_0 != 0) = false := bne_eq_false_iff_eq.mpr c5
   clear c5
   (first | rw [c5b0] | (simp only [i64_w, i32_w]; rw [c5b0]) | skip)
   have H' := Aside0.mk H
   clear H
   have hcz6_0 : w3.cell? ⟨gb184, 0, none⟩ = some (.int .i64 a0_0) := (blk_cell BK184.out 0).trans rfl
   have hcz6_1 : w3.cell? ⟨gb184, 1, none⟩ = some (.int .i64 a0_1) := (blk_cell BK184.out 1).trans rfl
   have hcz6_2 : w3.cell? ⟨gb184, 2, none⟩ = some (.int .i64 a0_2) := (blk_cell BK184.out 2).trans rfl
   have hcz6_3 : w3.cell? ⟨gb184, 3, none⟩ = some (.string a0_3) := (blk_cell BK184.out 3).trans rfl
   have hfz6_0 := blk_frozen BK184.out 0
   have hfz6_1 := blk_frozen BK184.out 1
   have hfz6_2 := blk_frozen BK184.out 2
   have hfz6_3 := blk_frozen BK184.out 3
   go_wp2
   repeat (go_quiet (fail); try go_wp2)
   go_meet
   case rel => exact ⟨_, (false), (by first | rfl | (simp; done) | (simp [*]; done)), H', ⟨by first | omega | exact Nat.le_refl _⟩, ⟨by (with_reducible repeat (first | refine blk_drewN ?_ _ | refine blk_drew ?_ | refine blk_alloc ?_ _)); exact BK184.out⟩, ⟨by repeat (first | (with_reducible first | exact HB.out | apply below_alloc | apply pw_below_drewN | apply below_drew1 | refine below_set ?_ GE184.out) | exact HB.out)⟩⟩
  ·rw [if_neg c5] at H
   have c5b0 : (a0_0 == 0) = false := beq_eq_false_iff_ne.mpr c5
   have c5b1 : (a0_0 != 0) = true := bne_iff_ne.mpr c5
   (first | rw [c5b0] | (simp only [i64_w, i32_w]; rw [c5b0]) | skip)
   have H' := Aside0.mk H
   clear H
   have hcz7_0 : w3.cell? ⟨gb184, 0, none⟩ = some (.int .i64 a0_0) := (blk_cell BK184.out 0).trans rfl
   have hcz7_1 : w3.cell? ⟨gb184, 1, none⟩ = some (.int .i64 a0_1) := (blk_cell BK184.out 1).trans rfl
   have hcz7_2 : w3.cell? ⟨gb184, 2, none⟩ = some (.int .i64 a0_2) := (blk_cell BK184.out 2).trans rfl
   have hcz7_3 : w3.cell? ⟨gb184, 3, none⟩ = some (.string a0_3) := (blk_cell BK184.out 3).trans rfl
   have hfz7_0 := blk_frozen BK184.out 0
   have hfz7_1 := blk_frozen BK184.out 1
   have hfz7_2 := blk_frozen BK184.out 2
   have hfz7_3 := blk_frozen BK184.out 3
   go_wp2
   repeat (go_quiet (fail); try go_wp2)
   go_meet
   case rel => exact ⟨_, ((a0_0 != 1)), (by first | rfl | (simp; done) | (simp [*]; done)), H', ⟨by first | omega | exact Nat.le_refl _⟩, ⟨by (with_reducible repeat (first | refine blk_drewN ?_ _ | refine blk_drew ?_ | refine blk_alloc ?_ _)); exact BK184.out⟩, ⟨by repeat (first | (with_reducible first | exact HB.out | apply below_alloc | apply pw_below_drewN | apply below_drew1 | refine below_set ?_ GE184.out) | exact HB.out)⟩⟩
 case rest =>
  clear HC2
  try clear p2
  try clear c4
  try clear c5
  try clear c5b0
  try clear c5b1
  try clear hcz4_0
  try clear hcz4_1
  try clear hcz4_2
  try clear hcz4_3
  try clear hcz6_0
  try clear hcz6_1
  try clear hcz6_2
  try clear hcz6_3
  try clear hcz7_0
  try clear hcz7_1
  try clear hcz7_2
  try clear hcz7_3
  try clear hfz4_0
  try clear hfz4_1
  try clear hfz4_2
  try clear hfz4_3
  try clear hfz6_0
  try clear hfz6_1
  try clear hfz6_2
  try clear hfz6_3
  try clear hfz7_0
  try clear hfz7_1
  try clear hfz7_2
  try clear hfz7_3
  obtain ⟨kq, x15_1, rfl, HA, HJ1, BK184, HB⟩ := hcut
  cases kq with
  | zero => exact absurd HA.out (by simp [bywashref1_Strip.j0])
  | succ kj1 =>
   have H := HA.out
   clear HA
   simp only [bywashref1_Strip.j0] at H
   by_cases c8 : x15_1 = true
   ·subst c8
    have H1 : (some (a0_3, 0, 0)) = some (r1, r2, r3) := by rw [if_pos rfl] at H; exact H
    clear H
    have H := H1
    clear H1
    simp only [Option.some.injEq, Prod.mk.injEq] at H
    obtain ⟨rfl, rfl, rfl⟩ := H
    go_wp2
    repeat (go_quiet (fail); try go_wp2)
    go_ret3
    exact ⟨by first | rfl | (simp [errW_none, errW_some] <;> rfl) | (simp [*, errW_none, errW_some] <;> rfl), by repeat (first | (with_reducible first | exact HB.out | apply below_alloc | apply pw_below_drewN | apply below_drew1 | refine below_set ?_ GE184.out) | exact HB.out)⟩
   ·replace c8 := Bool.eq_false_iff.mpr c8
    subst c8
    have H1 : (if (Go.bits .and .i64 a0_1 8) = 0 then (bywashref1_Strip.j1 kj1 a0_3 a0_0 a0_1 a0_2 a0_3) else (if a0_3.toList = ([] : List UInt8) then (some ((⟨#[]⟩ : ByteArray), 0, 11)) else (if 0 < (a0_3.size : Int) then (if (wrap64 (bt a0_3 0)) > (wrap64 ((a0_3.size : Int) - 1)) then (some ((⟨#[]⟩ : ByteArray), 0, 11)) else (if 1 ≤ (wrap64 ((a0_3.size : Int) - (wrap64 (bt a0_3 0)))) then (if (wrap64 ((a0_3.size : Int) - (wrap64 (bt a0_3 0)))) ≤ (a0_3.size : Int) then (bywashref1_Strip.j1 kj1 (a0_3.extract 1 ((wrap64 ((a0_3.size : Int) - (wrap64 (bt a0_3 0)))) : Int).toNat) a0_0 a0_1 a0_2 a0_3) else (none)) else (none))) else (none)))) = some (r1, r2, r3) := by rw [if_neg (show ¬ (false = true) by decide)] at H; exact H
    clear H
    have H := H1
    clear H1
    have HC9 := Aside0.mk H
    clear H
    have hcz10_0 : wc.cell? ⟨gb184, 0, none⟩ = some (.int .i64 a0_0) := (blk_cell BK184.out 0).trans rfl
    have hcz10_1 : wc.cell? ⟨gb184, 1, none⟩ = some (.int .i64 a0_1) := (blk_cell BK184.out 1).trans rfl
    have hcz10_2 : wc.cell? ⟨gb184, 2, none⟩ = some (.int .i64 a0_2) := (blk_cell BK184.out 2).trans rfl
    have hcz10_3 : wc.cell? ⟨gb184, 3, none⟩ = some (.string a0_3) := (blk_cell BK184.out 3).trans rfl
    have hfz10_0 := blk_frozen BK184.out 0
    have hfz10_1 := blk_frozen BK184.out 1
    have hfz10_2 := blk_frozen BK184.out 2
    have hfz10_3 := blk_frozen BK184.out 3
    go_upto_if 20 with (fail)
    repeat (go_quiet (fail); go_upto_if 20 with (fail))
    go_cut [5] (fun v5 wc => ∃ (kq : Nat) (x5_8 : ByteArray), v5 = .string x5_8 ∧ Aside0 (bywashref1_Strip.j1 kq x5_8 a0_0 a0_1 a0_2 a0_3 = some (r1, r2, r3)) ∧ Aside0 (kq ≤ kj1) ∧ Aside0 (wc.heap[gb184]? = some (.cells #[.int .i64 a0_0, .int .i64 a0_1, .int .i64 a0_2, .string a0_3] 39 (0, 0))) ∧ Aside0 (Below w.heap.size w wc))
    case first =>
     have H := HC9.out
     clear HC9
     by_cases c11 : (Go.bits .and .i64 a0_1 8) = 0
     ·rw [if_pos c11] at H
      have c11b0 : ((Go.bits .and .i64 a0_1 8) == 0) = true := beq_iff_eq.mpr c11
      have c11b1 : ((Go.bits .and .i64 a0_1 8) != 0) = false := bne_eq_false_iff_eq.mpr c11
      clear c11
      (first | rw [c11b0] | (simp only [i64_w, i32_w]; rw [c11b0]) | skip)
      have H' := Aside0.mk H
      clear H
      go_wp2
      repeat (go_quiet (fail); try go_wp2)
      go_meet
      case rel => exact ⟨_, (a0_3), (by first | rfl | (simp; done) | (simp [*]; done)), H', ⟨by have := HJ1.out; first | omega | exact Nat.le_refl _⟩, ⟨by (with_reducible repeat (first | refine blk_drewN ?_ _ | refine blk_drew ?_ | refine blk_alloc ?_ _)); exact BK184.out⟩, ⟨by repeat (first | (with_reducible first | exact HB.out | apply below_alloc | apply pw_below_drewN | apply below_drew1 | refine below_set ?_ GE184.out) | exact HB.out)⟩⟩
     ·rw [if_neg c11] at H
      have c11b0 : ((Go.bits .and .i64 a0_1 8) == 0) = false := beq_eq_false_iff_ne.mpr c11
      have c11b1 : ((Go.bits .and .i64 a0_1 8) != 0) = true := bne_iff_ne.mpr c11
      (first | rw [c11b0] | (simp only [i64_w, i32_w]; rw [c11b0]) | skip)
      by_cases c12 : a0_3.toList = ([] : List UInt8)
      ·rw [if_pos c12] at H
       have c12b0 : (a0_3.toList == ([] : List UInt8)) = true := beq_iff_eq.mpr c12
       have c12b1 : (a0_3.toList != ([] : List UInt8)) = false := bne_eq_false_iff_eq.mpr c12
       clear c12
       simp only [Option.some.injEq, Prod.mk.injEq] at H
       obtain ⟨rfl, rfl, rfl⟩ := H
       go_wp2
       repeat (go_quiet (fail); try go_wp2)
       go_ret3
       exact ⟨by first | rfl | (simp [errW_none, errW_some] <;> rfl) | (simp [*, errW_none, errW_some] <;> rfl), by repeat (first | (with_reducible first | exact HB.out | apply below_alloc | apply pw_below_drewN | apply below_drew1 | refine below_set ?_ GE184.out) | exact HB.out)⟩
      ·rw [if_neg c12] at H
       have c12b0 : (a0_3.toList == ([] : List UInt8)) = false := beq_eq_false_iff_ne.mpr c12
       have c12b1 : (a0_3.toList != ([] : List UInt8)) = true := bne_iff_ne.mpr c12
       by_cases c13 : 0 < (a0_3.size : Int)
       ·rw [if_pos c13] at H
        have c13b0 : decide (0 < (a0_3.size : Int)) = true := decide_eq_true c13
        have c13b1 : decide (0 < a0_3.size) = true := decide_eq_true (by omega)
        clear c13
        by_cases c15 : (wrap64 (bt a0_3 0)) > (wrap64 ((a0_3.size : Int) - 1))
        ·rw [if_pos c15] at H
         have c15b0 : decide ((wrap64 ((a0_3.size : Int) - 1)) < (wrap64 (bt a0_3 0))) = true := decide_eq_true c15
         clear c15
         simp only [Option.some.injEq, Prod.mk.injEq] at H
         obtain ⟨rfl, rfl, rfl⟩ := H
         have p14 : 0 ≤ (0 : Int) := (by omega)
         have q14 : 0 < a0_3.size := (by have : (0 : Int) < (a0_3.size : Int) := of_decide_eq_true (by first | (with_reducible assumption) | assumption); omega)
         have hx14 : ∀ h : 0 < a0_3.size, ((a0_3[0]'h).toNat : Int) = bt a0_3 0 := bt_at a0_3 0
         clear p14
         have qi14 : (0 < (a0_3.size : Int)) = True := eq_true (of_decide_eq_true (by first | (with_reducible assumption) | assumption))
         replace q14 := eq_true q14
         go_wp2
         repeat (go_quiet (fail); try go_wp2)
         go_ret3
         exact ⟨by first | rfl | (simp [errW_none, errW_some] <;> rfl) | (simp [*, errW_none, errW_some] <;> rfl), by repeat (first | (with_reducible first | exact HB.out | apply below_alloc | apply pw_below_drewN | apply below_drew1 | refine below_set ?_ GE184.out) | exact HB.out)⟩
        ·rw [if_neg c15] at H
         have c15b0 : decide ((wrap64 ((a0_3.size : Int) - 1)) < (wrap64 (bt a0_3 0))) = false := decide_eq_false c15
         clear c15
         by_cases c17 : 1 ≤ (wrap64 ((a0_3.size : Int) - (wrap64 (bt a0_3 0))))
         ·rw [if_pos c17] at H
          have c17b0 := eq_true c17
          have c17b1 : decide (1 ≤ (wrap64 ((a0_3.size : Int) - (wrap64 (bt a0_3 0))))) = true := decide_eq_true c17
          clear c17
          by_cases c18 : (wrap64 ((a0_3.size : Int) - (wrap64 (bt a0_3 0)))) ≤ (a0_3.size : Int)
          ·rw [if_pos c18] at H
           have c18b0 := eq_true c18
           have c18b1 : decide ((wrap64 ((a0_3.size : Int) - (wrap64 (bt a0_3 0)))) ≤ (a0_3.size : Int)) = true := decide_eq_true c18
           clear c18
           have H' := Aside0.mk H
           clear H
           have p14 : 0 ≤ (0 : Int) := (by omega)
           have q14 : 0 < a0_3.size := (by have : (0 : Int) < (a0_3.size : Int) := of_decide_eq_true (by first | (with_reducible assumption) | assumption); omega)
           have hx14 : ∀ h : 0 < a0_3.size, ((a0_3[0]'h).toNat : Int) = bt a0_3 0 := bt_at a0_3 0
           clear p14
           have qi14 : (0 < (a0_3.size : Int)) = True := eq_true (of_decide_eq_true (by first | (with_reducible assumption) | assumption))
           replace q14 := eq_true q14
           have p16 : 0 ≤ (0 : Int) := (by omega)
           have q16 : 0 < a0_3.size := (by have : (0 : Int) < (a0_3.size : Int) := of_decide_eq_true (by first | (with_reducible assumption) | assumption); omega)
           have hx16 : ∀ h : 0 < a0_3.size, ((a0_3[0]'h).toNat : Int) = bt a0_3 0 := bt_at a0_3 0
           clear p16
           have qi16 : (0 < (a0_3.size : Int)) = True := eq_true (of_decide_eq_true (by first | (with_reducible assumption) | assumption))
           replace q16 := eq_true q16
           go_wp2
           repeat (go_quiet (fail); try go_wp2)
           go_meet
           case rel => exact ⟨_, (a0_3.extract 1 ((wrap64 ((a0_3.size : Int) - (wrap64 (bt a0_3 0)))) : Int).toNat), (by first | rfl | (simp; done) | (simp [*]; done)), H', ⟨by have := HJ1.out; first | omega | exact Nat.le_refl _⟩, ⟨by (with_reducible repeat (first | refine blk_drewN ?_ _ | refine blk_drew ?_ | refine blk_alloc ?_ _)); exact BK184.out⟩, ⟨by repeat (first | (with_reducible first | exact HB.out | apply below_alloc | apply pw_below_drewN | apply below_drew1 | refine below_set ?_ GE184.out) | exact HB.out)⟩⟩
          ·rw [if_neg c18] at H
           exact absurd H (by simp)
         ·rw [if_neg c17] at H
          exact absurd H (by simp)
       ·rw [if_neg c13] at H
        exact absurd H (by simp)
    case rest =>
     clear HC9
     try clear c1
     try clear p1
     try clear q1
     try clear hx1
     try clear qi1
     try clear p2
     try clear c4
     try clear c5
     try clear c5b0
     try clear c5b1
     try clear p6
     try clear c8
     try clear c11
     try clear c11b0
     try clear c11b1
     try clear c12
     try clear c12b0
     try clear c12b1
     try clear c13
     try clear c13b0
     try clear c13b1
     try clear p14
     try clear q14
     try clear hx14
     try clear qi14
     try clear c15
     try clear c15b0
     try clear p16
     try clear q16
     try clear hx16
     try clear qi16
     try clear c17
     try clear c17b0
     try clear c17b1
     try clear c18
     try clear c18b0
     try clear c18b1
     try clear hcz10_0
     try clear hcz10_1
     try clear hcz10_2
     try clear hcz10_3
     try clear hcz4_0
     try clear hcz4_1
     try clear hcz4_2
     try clear hcz4_3
     try clear hcz6_0
     try clear hcz6_1
     try clear hcz6_2
     try clear hcz6_3
     try clear hcz7_0
     try clear hcz7_1
     try clear hcz7_2
     try clear hcz7_3
     try clear hfz10_0
     try clear hfz10_1
     try clear hfz10_2
     try clear hfz10_3
     try clear hfz4_0
     try clear hfz4_1
     try clear hfz4_2
     try clear hfz4_3
     try clear hfz6_0
     try clear hfz6_1
     try clear hfz6_2
     try clear hfz6_3
     try clear hfz7_0
     try clear hfz7_1
     try clear hfz7_2
     try clear hfz7_3
     try clear p14
     try clear p16
     try clear p2
     try clear q14
     try clear q16
     obtain ⟨kq, x5_8, rfl, HA, HJ8, BK184, HB⟩ := hcut
     cases kq with
     | zero => exact absurd HA.out (by simp [bywashref1_Strip.j1])
     | succ kj8 =>
      have H := HA.out
      clear HA
      simp only [bywashref1_Strip.j1] at H
      have HC19 := Aside0.mk H
      clear H
      go_upto_region 8 with (fail)
      repeat (go_quiet (fail); go_upto_region 8 with (fail))
      go_cut [48] (fun v48 wc => ∃ (kq : Nat) (x48_18 : Bool), v48 = .bool x48_18 ∧ Aside0 (bywashref1_Strip.j2 kq x5_8 x48_18 a0_0 a0_1 a0_2 a0_3 = some (r1, r2, r3)) ∧ Aside0 (kq ≤ kj8) ∧ Aside0 (wc.heap[gb184]? = some (.cells #[.int .i64 a0_0, .int .i64 a0_1, .int .i64 a0_2, .string a0_3] 39 (0, 0))) ∧ Aside0 (Below w.heap.size w wc))
      case first =>
       have H := HC19.out
       clear HC19
       by_cases c20 : a0_0 = 1
       ·rw [if_pos c20] at H
        have c20b0 : (a0_0 == 1) = true := beq_iff_eq.mpr c20
        have c20b1 : (a0_0 != 1) = false := bne_eq_false_iff_eq.mpr c20
        clear c20
        (first | rw [c20b0] | (simp only [i64_w, i32_w]; rw [c20b0]) | skip)
        have H' := Aside0.mk H
        clear H
        have hcz21_0 : wc.cell? ⟨gb184, 0, none⟩ = some (.int .i64 a0_0) := (blk_cell BK184.out 0).trans rfl
        have hcz21_1 : wc.cell? ⟨gb184, 1, none⟩ = some (.int .i64 a0_1) := (blk_cell BK184.out 1).trans rfl
        have hcz21_2 : wc.cell? ⟨gb184, 2, none⟩ = some (.int .i64 a0_2) := (blk_cell BK184.out 2).trans rfl
        have hcz21_3 : wc.cell? ⟨gb184, 3, none⟩ = some (.string a0_3) := (blk_cell BK184.out 3).trans rfl
        have hfz21_0 := blk_frozen BK184.out 0
        have hfz21_1 := blk_frozen BK184.out 1
        have hfz21_2 := blk_frozen BK184.out 2
        have hfz21_3 := blk_frozen BK184.out 3
        go_wp2
        repeat (go_quiet (fail); try go_wp2)
        go_meet
        case rel => exact ⟨_, (((Go.bits .and .i64 a0_1 32) != 0)), (by first | rfl | (simp; done) | (simp [*]; done)), H', ⟨by have := HJ1.out; have := HJ8.out; first | omega | exact Nat.le_refl _⟩, ⟨by (with_reducible repeat (first | refine blk_drewN ?_ _ | refine blk_drew ?_ | refine blk_alloc ?_ _)); exact BK184.out⟩, ⟨by repeat (first | (with_reducible first | exact HB.out | apply below_alloc | apply pw_below_drewN | apply below_drew1 | refine below_set ?_ GE184.out) | exact HB.out)⟩⟩
       ·rw [if_neg c20] at H
        have c20b0 : (a0_0 == 1) = false := beq_eq_false_iff_ne.mpr c20
        have c20b1 : (a0_0 != 1) = true := bne_iff_ne.mpr c20
        (first | rw [c20b0] | (simp only [i64_w, i32_w]; rw [c20b0]) | skip)
        have H' := Aside0.mk H
        clear H
        have hcz22_0 : wc.cell? ⟨gb184, 0, none⟩ = some (.int .i64 a0_0) := (blk_cell BK184.out 0).trans rfl
        have hcz22_1 : wc.cell? ⟨gb184, 1, none⟩ = some (.int .i64 a0_1) := (blk_cell BK184.out 1).trans rfl
        have hcz22_2 : wc.cell? ⟨gb184, 2, none⟩ = some (.int .i64 a0_2) := (blk_cell BK184.out 2).trans rfl
        have hcz22_3 : wc.cell? ⟨gb184, 3, none⟩ = some (.string a0_3) := (blk_cell BK184.out 3).trans rfl
        have hfz22_0 := blk_frozen BK184.out 0
        have hfz22_1 := blk_frozen BK184.out 1
        have hfz22_2 := blk_frozen BK184.out 2
        have hfz22_3 := blk_frozen BK184.out 3
        go_wp2
        repeat (go_quiet (fail); try go_wp2)
        go_meet
        case rel => exact ⟨_, (false), (by first | rfl | (simp; done) | (simp [*]; done)), H', ⟨by have := HJ1.out; have := HJ8.out; first | omega | exact Nat.le_refl _⟩, ⟨by (with_reducible repeat (first | refine blk_drewN ?_ _ | refine blk_drew ?_ | refine blk_alloc ?_ _)); exact BK184.out⟩, ⟨by repeat (first | (with_reducible first | exact HB.out | apply below_alloc | apply pw_below_drewN | apply below_drew1 | refine below_set ?_ GE184.out) | exact HB.out)⟩⟩
      case rest =>
       clear HC19
       try clear c1
       try clear p1
       try clear q1
       try clear hx1
       try clear qi1
       try clear c2
       try clear p2
       try clear c4
       try clear c5
       try clear c5b0
       try clear c5b1
       try clear p6
       try clear c8
       try clear c11
       try clear c11b0
       try clear c11b1
       try clear c12
       try clear c12b0
       try clear c12b1
       try clear c13
       try clear c13b0
       try clear c13b1
       try clear p14
       try clear q14
       try clear hx14
       try clear qi14
       try clear c15
       try clear c15b0
       try clear p16
       try clear q16
       try clear hx16
       try clear qi16
       try clear c17
       try clear c17b0
       try clear c17b1
       try clear c18
       try clear c18b0
       try clear c18b1
       try clear c20
       try clear c20b0
       try clear c20b1
       try clear hcz10_0
       try clear hcz10_1
       try clear hcz10_2
       try clear hcz10_3
       try clear hcz21_0
       try clear hcz21_1
       try clear hcz21_2
       try clear hcz21_3
       try clear hcz22_0
       try clear hcz22_1
       try clear hcz22_2
       try clear hcz22_3
       try clear hcz4_0
       try clear hcz4_1
       try clear hcz4_2
       try clear hcz4_3
       try clear hcz6_0
       try clear hcz6_1
       try clear hcz6_2
       try clear hcz6_3
       try clear hcz7_0
       try clear hcz7_1
       try clear hcz7_2
       try clear hcz7_3
       try clear hfz10_0
       try clear hfz10_1
       try clear hfz10_2
       try clear hfz10_3
       try clear hfz21_0
       try clear hfz21_1
       try clear hfz21_2
       try clear hfz21_3
       try clear hfz22_0
       try clear hfz22_1
       try clear hfz22_2
       try clear hfz22_3
       try clear hfz4_0
       try clear hfz4_1
       try clear hfz4_2
       try clear hfz4_3
       try clear hfz6_0
       try clear hfz6_1
       try clear hfz6_2
       try clear hfz6_3
       try clear hfz7_0
       try clear hfz7_1
       try clear hfz7_2
       try clear hfz7_3
       try clear p1
       try clear p14
       try clear p16
       try clear p2
       try clear p6
       try clear q1
       try clear q14
       try clear q16
       obtain ⟨kq, x48_18, rfl, HA, HJ18, BK184, HB⟩ := hcut
       cases kq with
       | zero => exact absurd HA.out (by simp [bywashref1_Strip.j2])
       | succ kj18 =>
        have H := HA.out
        clear HA
        simp only [bywashref1_Strip.j2] at H
        by_cases c23 : x48_18 = true
        ·subst c23
         have H1 : (if (x5_8.size : Int) < 5 then (some ((⟨#[]⟩ : ByteArray), 0, 5)) else (if 5 ≤ (x5_8.size : Int) then (some (x5_8.extract 5 x5_8.size, wrap64 ((a0_3.size : Int) - ((x5_8.extract 5 x5_8.size).size : Int)), 0)) else (none))) = some (r1, r2, r3) := by rw [if_pos rfl] at H; exact H
         clear H
         have H := H1
         clear H1
         by_cases c24 : (x5_8.size : Int) < 5
         ·rw [if_pos c24] at H
          have c24b0 : decide ((x5_8.size : Int) < 5) = true := decide_eq_true c24
          have c24b1 : decide (x5_8.size < 5) = true := decide_eq_true (by omega)
          clear c24
          simp only [Option.some.injEq, Prod.mk.injEq] at H
          obtain ⟨rfl, rfl, rfl⟩ := H
          go_wp2
          repeat (go_quiet (fail); try go_wp2)
          go_ret3
          exact ⟨by first | rfl | (simp [errW_none, errW_some] <;> rfl) | (simp [*, errW_none, errW_some] <;> rfl), by repeat (first | (with_reducible first | exact HB.out | apply below_alloc | apply pw_below_drewN | apply below_drew1 | refine below_set ?_ GE184.out) | exact HB.out)⟩
         ·rw [if_neg c24] at H
          have c24b0 : decide ((x5_8.size : Int) < 5) = false := decide_eq_false c24
          have c24b1 : decide (x5_8.size < 5) = false := decide_eq_false (by omega)
          clear c24
          by_cases c25 : 5 ≤ (x5_8.size : Int)
          ·rw [if_pos c25] at H
           have c25b0 := eq_true c25
           have c25b1 : decide (5 ≤ (x5_8.size : Int)) = true := decide_eq_true c25
           clear c25
           simp only [Option.some.injEq, Prod.mk.injEq] at H
           obtain ⟨rfl, rfl, rfl⟩ := H
           have hcz26_0 : wc.cell? ⟨gb184, 0, none⟩ = some (.int .i64 a0_0) := (blk_cell BK184.out 0).trans rfl
           have hcz26_1 : wc.cell? ⟨gb184, 1, none⟩ = some (.int .i64 a0_1) := (blk_cell BK184.out 1).trans rfl
           have hcz26_2 : wc.cell? ⟨gb184, 2, none⟩ = some (.int .i64 a0_2) := (blk_cell BK184.out 2).trans rfl
           have hcz26_3 : wc.cell? ⟨gb184, 3, none⟩ = some (.string a0_3) := (blk_cell BK184.out 3).trans rfl
           have hfz26_0 := blk_frozen BK184.out 0
           have hfz26_1 := blk_frozen BK184.out 1
           have hfz26_2 := blk_frozen BK184.out 2
           have hfz26_3 := blk_frozen BK184.out 3
           go_wp2
           repeat (go_quiet (fail); try go_wp2)
           go_ret3
           exact ⟨by first | rfl | (simp [errW_none, errW_some] <;> rfl) | (simp [*, errW_none, errW_some] <;> rfl), by repeat (first | (with_reducible first | exact HB.out | apply below_alloc | apply pw_below_drewN | apply below_drew1 | refine below_set ?_ GE184.out) | exact HB.out)⟩
          ·rw [if_neg c25] at H
           exact absurd H (by simp)
        ·replace c23 := Bool.eq_false_iff.mpr c23
         subst c23
         have H1 : (some (x5_8, wrap64 ((a0_3.size : Int) - (x5_8.size : Int)), 0)) = some (r1, r2, r3) := by rw [if_neg (show ¬ (false = true) by decide)] at H; exact H
         clear H
         have H := H1
         clear H1
         simp only [Option.some.injEq, Prod.mk.injEq] at H
         obtain ⟨rfl, rfl, rfl⟩ := H
         have hcz27_0 : wc.cell? ⟨gb184, 0, none⟩ = some (.int .i64 a0_0) := (blk_cell BK184.out 0).trans rfl
         have hcz27_1 : wc.cell? ⟨gb184, 1, none⟩ = some (.int .i64 a0_1) := (blk_cell BK184.out 1).trans rfl
         have hcz27_2 : wc.cell? ⟨gb184, 2, none⟩ = some (.int .i64 a0_2) := (blk_cell BK184.out 2).trans rfl
         have hcz27_3 : wc.cell? ⟨gb184, 3, none⟩ = some (.string a0_3) := (blk_cell BK184.out 3).trans rfl
         have hfz27_0 := blk_frozen BK184.out 0
         have hfz27_1 := blk_frozen BK184.out 1
         have hfz27_2 := blk_frozen BK184.out 2
         have hfz27_3 := blk_frozen BK184.out 3
         go_wp2
         repeat (go_quiet (fail); try go_wp2)
         go_ret3
         exact ⟨by first | rfl | (simp [errW_none, errW_some] <;> rfl) | (simp [*, errW_none, errW_some] <;> rfl), by repeat (first | (with_reducible first | exact HB.out | apply below_alloc | apply pw_below_drewN | apply below_drew1 | refine below_set ?_ GE184.out) | exact HB.out)⟩

end Go.Proofs.Ytdonanibfifodaa.PBlockPlays
