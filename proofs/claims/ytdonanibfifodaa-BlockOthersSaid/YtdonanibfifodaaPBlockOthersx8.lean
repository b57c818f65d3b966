-- Written by a program of this session (the kit's printer, turned): the functions that the law reaches.
import Derived.Test.YtdonanibfifodaaPBlockOthersx0
import Derived.Test.YtdonanibfifodaaPBlockOthersx1
import Derived.Test.YtdonanibfifodaaPBlockOthersx2
import Derived.Test.YtdonanibfifodaaPBlockOthersx5
import Derived.Test.YtdonanibfifodaaPBlockOthersx7
namespace Go.Proofs.Ytdonanibfifodaa.PBlockOthers
open Go.RowKit Go.Proofs.YtdonanibfifodaaW.PrintWords Go.Proofs.YtdonanibfifodaaW.PrintLast Go.Proofs.YtdonanibfifodaaW.PrintMore
attribute [local go_sem] max2_int min2_int max_two min_two max_three min_three max_four min_four   -- for this text's walks alone
set_option linter.unusedVariables false
set_option linter.unusedSimpArgs false

attribute [local go_sem high] eqA41
/-! ### bywashlaw11_BlockOthers: function 9 -/
mutual
def bywashlaw11_BlockOthers.j0 : Nat → Bool → Int → Int → Int → ByteArray → Option (Bool)
  | 0, _, _, _, _, _ => none
  | k + 1, x22, x191000, x191001, x191002, x191003 => if x22 = true then ((bywashlaw11_alive.f k).bind fun t192 => (some t192)) else ((block_New.f 1000).bind fun bt193 => ((block_Blocks_Take.f k bt193.1 bt193.2.1 bt193.2.2.1 bt193.2.2.2 x191000 x191001 x191002 x191003).bind fun bt198 => ((bywashref1_Check.f k x191000 x191001 x191002 x191003).bind fun bt208 => (if bt208.2 = 0 then (if x191000 = 9 then (bywashlaw11_BlockOthers.j1 k bt198.2.2.2.1 bt198.2.2.2.2.1 11 bt198.2.2.2.2.2.1 bt198.2.2.2.2.2.2.1 bt198.2.2.2.2.2.2.2.1 bt198.2.2.2.2.2.2.2.2 bt198.1 bt198.2.1 bt198.2.2.1) else (bywashlaw11_BlockOthers.j1 k bt198.2.2.2.1 bt198.2.2.2.2.1 0 bt198.2.2.2.2.2.1 bt198.2.2.2.2.2.2.1 bt198.2.2.2.2.2.2.2.1 bt198.2.2.2.2.2.2.2.2 bt198.1 bt198.2.1 bt198.2.2.1)) else (bywashlaw11_BlockOthers.j1 k bt198.2.2.2.1 bt198.2.2.2.2.1 1 bt198.2.2.2.2.2.1 bt198.2.2.2.2.2.2.1 bt198.2.2.2.2.2.2.2.1 bt198.2.2.2.2.2.2.2.2 bt198.1 bt198.2.1 bt198.2.2.1)))))
def bywashlaw11_BlockOthers.j1 : Nat → Bool → Int → Int → Int → Int → ByteArray → Bool → Int → ByteArray → Bool → Option (Bool)
  | 0, _, _, _, _, _, _, _, _, _, _ => none
  | k + 1, x5, x6, x9, x198000, x198001, x198002, x198003, x208000, x208001, x208002 => if x5 = true then (some false) else (if x6 = x9 then (if (x208000 == 0 && (x208001.toList == ([] : List UInt8) && (!x208002))) = true then ((block_Blocks_Open.f x198000 x198001 x198002 x198003).bind fun bt210 => (some (bt210.1 == 0))) else (some false)) else (some false))
end
def bywashlaw11_BlockOthers.f (k : Nat) (a0_0 : Int) (a0_1 : Int) (a0_2 : Int) (a0_3 : ByteArray) : Option (Bool) := if (a0_3.size : Int) > 600 then (bywashlaw11_BlockOthers.j0 k true a0_0 a0_1 a0_2 a0_3) else (if a0_0 = 1 then (bywashlaw11_BlockOthers.j0 k true a0_0 a0_1 a0_2 a0_3) else ((bywashlaw11_alive.f k).bind fun t191 => (bywashlaw11_BlockOthers.j0 k (!t191) a0_0 a0_1 a0_2 a0_3)))
theorem bywashlaw11_BlockOthers.mono_l : ∀ k, (∀ y0 y1 y2 y3 y4, LeO (bywashlaw11_BlockOthers.j0 k y0 y1 y2 y3 y4) (bywashlaw11_BlockOthers.j0 (k + 1) y0 y1 y2 y3 y4)) ∧ (∀ y0 y1 y2 y3 y4 y5 y6 y7 y8 y9, LeO (bywashlaw11_BlockOthers.j1 k y0 y1 y2 y3 y4 y5 y6 y7 y8 y9) (bywashlaw11_BlockOthers.j1 (k + 1) y0 y1 y2 y3 y4 y5 y6 y7 y8 y9))
  | 0 => ⟨fun _ _ _ _ _ r h => by simp [bywashlaw11_BlockOthers.j0] at h, fun _ _ _ _ _ _ _ _ _ _ r h => by simp [bywashlaw11_BlockOthers.j1] at h⟩
  | k + 1 => by
    obtain ⟨ih0, ih1⟩ := bywashlaw11_BlockOthers.mono_l k
    refine ⟨?_, ?_⟩
    · intro y0 y1 y2 y3 y4
      unfold bywashlaw11_BlockOthers.j0
      repeat' first
      | (with_reducible exact ih0 _ _ _ _ _)
      | (with_reducible exact ih1 _ _ _ _ _ _ _ _ _ _)
      | (with_reducible exact block_Blocks_Take.mono _ _ _ _ _ _ _ _ _)
      | (with_reducible exact bywashlaw11_alive.mono _)
      | (with_reducible exact bywashref1_Check.mono _ _ _ _ _)
      | (with_reducible exact LeO.refl _)
      | (with_reducible exact LeO.none _)
      | (with_reducible refine LeO.ite ?_ ?_)
      | (with_reducible refine LeO.bind ?_ (fun _ => ?_))
      | exact ih0 _ _ _ _ _
      | exact ih1 _ _ _ _ _ _ _ _ _ _
      | exact block_Blocks_Take.mono _ _ _ _ _ _ _ _ _
      | exact bywashlaw11_alive.mono _
      | exact bywashref1_Check.mono _ _ _ _ _
      | exact LeO.none _
      | refine LeO.ite ?_ ?_
      | refine LeO.bind ?_ (fun _ => ?_)
    · intro y0 y1 y2 y3 y4 y5 y6 y7 y8 y9
      unfold bywashlaw11_BlockOthers.j1
      repeat' first
      | (with_reducible exact ih0 _ _ _ _ _)
      | (with_reducible exact ih1 _ _ _ _ _ _ _ _ _ _)
      | (with_reducible exact block_Blocks_Take.mono _ _ _ _ _ _ _ _ _)
      | (with_reducible exact bywashlaw11_alive.mono _)
      | (with_reducible exact bywashref1_Check.mono _ _ _ _ _)
      | (with_reducible exact LeO.refl _)
      | (with_reducible exact LeO.none _)
      | (with_reducible refine LeO.ite ?_ ?_)
      | (with_reducible refine LeO.bind ?_ (fun _ => ?_))
      | exact ih0 _ _ _ _ _
      | exact ih1 _ _ _ _ _ _ _ _ _ _
      | exact block_Blocks_Take.mono _ _ _ _ _ _ _ _ _
      | exact bywashlaw11_alive.mono _
      | exact bywashref1_Check.mono _ _ _ _ _
      | exact LeO.none _
      | refine LeO.ite ?_ ?_
      | refine LeO.bind ?_ (fun _ => ?_)
theorem bywashlaw11_BlockOthers.mono : ∀ a0 a1 a2 a3 k, LeO (bywashlaw11_BlockOthers.f k a0 a1 a2 a3) (bywashlaw11_BlockOthers.f (k + 1) a0 a1 a2 a3) := by
  intro a0 a1 a2 a3 k
  obtain ⟨ih0, ih1⟩ := bywashlaw11_BlockOthers.mono_l k
  unfold bywashlaw11_BlockOthers.f
  repeat' first
      | (with_reducible exact ih0 _ _ _ _ _)
      | (with_reducible exact ih1 _ _ _ _ _ _ _ _ _ _)
      | (with_reducible exact block_Blocks_Take.mono _ _ _ _ _ _ _ _ _)
      | (with_reducible exact bywashlaw11_alive.mono _)
      | (with_reducible exact bywashref1_Check.mono _ _ _ _ _)
      | (with_reducible exact LeO.refl _)
      | (with_reducible exact LeO.none _)
      | (with_reducible refine LeO.ite ?_ ?_)
      | (with_reducible refine LeO.bind ?_ (fun _ => ?_))
      | exact ih0 _ _ _ _ _
      | exact ih1 _ _ _ _ _ _ _ _ _ _
      | exact block_Blocks_Take.mono _ _ _ _ _ _ _ _ _
      | exact bywashlaw11_alive.mono _
      | exact bywashref1_Check.mono _ _ _ _ _
      | exact LeO.none _
      | refine LeO.ite ?_ ?_
      | refine LeO.bind ?_ (fun _ => ?_)
set_option maxHeartbeats 8000000 in
set_option maxRecDepth 100000 in
theorem bywashlaw11_BlockOthers.calls (k : Nat) (a0_0 : Int) (a0_1 : Int) (a0_2 : Int) (a0_3 : ByteArray) (r : Bool) (w : World) (h : bywashlaw11_BlockOthers.f k a0_0 a0_1 a0_2 a0_3 = some r) :
    Calls Try.prog 9 #[.agg #[.int .i64 a0_0, .int .i64 a0_1, .int .i64 a0_2, .string a0_3]] w fun e w' => e = .returned (.bool r) ∧ Below w.heap.size w w' := by
  have hfs41_0 : ∀ (v0_ : Int) (v1_ : ByteArray) (v2_ : Bool) (W_ : World), (Instr.field 41 (.agg #[.int .i64 v0_, .string v1_, .bool v2_]) 0).run Try.prog W_ = .ok (.int .i64 v0_) W_ := fun v0_ v1_ v2_ _ => by kernel_rfl
  have hfs41_1 : ∀ (v0_ : Int) (v1_ : ByteArray) (v2_ : Bool) (W_ : World), (Instr.field 41 (.agg #[.int .i64 v0_, .string v1_, .bool v2_]) 1).run Try.prog W_ = .ok (.string v1_) W_ := fun v0_ v1_ v2_ _ => by kernel_rfl
  have hfs41_2 : ∀ (v0_ : Int) (v1_ : ByteArray) (v2_ : Bool) (W_ : World), (Instr.field 41 (.agg #[.int .i64 v0_, .string v1_, .bool v2_]) 2).run Try.prog W_ = .ok (.bool v2_) W_ := fun v0_ v1_ v2_ _ => by kernel_rfl
  have hu39 := Try.underlying39
  have hu41 := Try.underlying41
  have HB := Aside0.mk (Below.refl w.heap.size w)
  have H : (if (a0_3.size : Int) > 600 then (bywashlaw11_BlockOthers.j0 k true a0_0 a0_1 a0_2 a0_3) else (if a0_0 = 1 then (bywashlaw11_BlockOthers.j0 k true a0_0 a0_1 a0_2 a0_3) else ((bywashlaw11_alive.f k).bind fun t191 => (bywashlaw11_BlockOthers.j0 k (!t191) a0_0 a0_1 a0_2 a0_3)))) = some r := h
  clear h
  have HC2 := Aside0.mk H
  clear H
  go_enter Try.func9, Try.ntmps9
  go_upto_region 1 with (first | ((with_reducible refine gate_dst (N := 1) rfl ?_); refine box_event ?hg (N := 1) ?hd (cs := #[.int .i64 a0_0, .int .i64 a0_1, .int .i64 a0_2, .string a0_3]) (t := 39) ?hr ?_; (case hd => rfl); (case hg => rfl); (case hr => first | (go_simp; done) | (go_simp; rfl)); intro gb190 hg w3 hbox hb; have n0_ := Aside0.mk (below_step (by repeat (first | (with_reducible first | exact HB.out | apply below_alloc | apply pw_below_drewN | apply below_drew1) | exact HB.out)) hb); have n1_ := Aside0.mk (hbox); have n2_ := Aside0.mk ((by rw [hg]; exact (below_size (by repeat (first | (with_reducible first | exact HB.out | apply below_alloc | apply pw_below_drewN | apply below_drew1) | exact HB.out))) : w.heap.size ≤ gb190)); have n3_ := Aside0.mk ((by rw [hg]; exact (below_size (by repeat (first | (with_reducible first | exact HB.out | apply below_alloc | apply pw_below_drewN | apply below_drew1) | exact HB.out))) : w.heap.size ≤ gb190)); clear HB; have HB := n0_; have BK190 := n1_; have GW190 := n2_; have GE190 := n3_; clear n0_ n1_ n2_ n3_; clear hb hbox hg))
  (try simp only [Act.put, List.setIfInBounds_toArray, List.set_cons_zero, List.set_cons_succ])
  go_cut [22] (fun v22 wc => ∃ (kq : Nat) (x22_1 : Bool), v22 = .bool x22_1 ∧ Aside0 (bywashlaw11_BlockOthers.j0 kq x22_1 a0_0 a0_1 a0_2 a0_3 = some r) ∧ Aside0 (kq ≤ k) ∧ Aside0 (wc.heap[gb190]? = some (.cells #[.int .i64 a0_0, .int .i64 a0_1, .int .i64 a0_2, .string a0_3] 39 (0, 0))) ∧ Aside0 (Below w.heap.size w wc))
  case first =>
    have H := HC2.out
    clear HC2
    by_cases c4 : (a0_3.size : Int) > 600
    · rw [if_pos c4] at H
      have c4b0 : decide (600 < (a0_3.size : Int)) = true := decide_eq_true c4
      have c4b1 : decide (600 < a0_3.size) = true := decide_eq_true (by omega)
      clear c4
      (first | rw [c4b0] | (simp only [i64_w, i32_w]; rw [c4b0]) | skip)
      have H' := Aside0.mk H
      clear H
      have hcz5_0 : w3.cell? ⟨gb190, 0, none⟩ = some (.int .i64 a0_0) := (blk_cell BK190.out 0).trans rfl
      have hcz5_1 : w3.cell? ⟨gb190, 1, none⟩ = some (.int .i64 a0_1) := (blk_cell BK190.out 1).trans rfl
      have hcz5_2 : w3.cell? ⟨gb190, 2, none⟩ = some (.int .i64 a0_2) := (blk_cell BK190.out 2).trans rfl
      have hcz5_3 : w3.cell? ⟨gb190, 3, none⟩ = some (.string a0_3) := (blk_cell BK190.out 3).trans rfl
      have hfz5_0 := blk_frozen BK190.out 0
      have hfz5_1 := blk_frozen BK190.out 1
      have hfz5_2 := blk_frozen BK190.out 2
      have hfz5_3 := blk_frozen BK190.out 3
      go_wp2
      go_meet
      case rel => exact ⟨_, (true), (by first | rfl | (simp; done) | (simp [*]; done)), H', ⟨by first | omega | exact Nat.le_refl _⟩, ⟨by (with_reducible repeat (first | refine blk_drewN ?_ _ | refine blk_drew ?_ | refine blk_alloc ?_ _)); exact BK190.out⟩, ⟨by repeat (first | (with_reducible first | exact HB.out | apply below_alloc | apply pw_below_drewN | apply below_drew1 | refine below_set ?_ GE190.out) | exact HB.out)⟩⟩
    · rw [if_neg c4] at H
      have c4b0 : decide (600 < (a0_3.size : Int)) = false := decide_eq_false c4
      have c4b1 : decide (600 < a0_3.size) = false := decide_eq_false (by omega)
      clear c4
      (first | rw [c4b0] | (simp only [i64_w, i32_w]; rw [c4b0]) | skip)
      by_cases c6 : a0_0 = 1
      · rw [if_pos c6] at H
        have c6b0 : (a0_0 == 1) = true := beq_iff_eq.mpr c6
        have c6b1 : (a0_0 != 1) = false := bne_eq_false_iff_eq.mpr c6
        clear c6
        have H' := Aside0.mk H
        clear H
        have hcz7_0 : w3.cell? ⟨gb190, 0, none⟩ = some (.int .i64 a0_0) := (blk_cell BK190.out 0).trans rfl
        have hcz7_1 : w3.cell? ⟨gb190, 1, none⟩ = some (.int .i64 a0_1) := (blk_cell BK190.out 1).trans rfl
        have hcz7_2 : w3.cell? ⟨gb190, 2, none⟩ = some (.int .i64 a0_2) := (blk_cell BK190.out 2).trans rfl
        have hcz7_3 : w3.cell? ⟨gb190, 3, none⟩ = some (.string a0_3) := (blk_cell BK190.out 3).trans rfl
        have hfz7_0 := blk_frozen BK190.out 0
        have hfz7_1 := blk_frozen BK190.out 1
        have hfz7_2 := blk_frozen BK190.out 2
        have hfz7_3 := blk_frozen BK190.out 3
        go_wp2
        go_meet
        case rel => exact ⟨_, (true), (by first | rfl | (simp; done) | (simp [*]; done)), H', ⟨by first | omega | exact Nat.le_refl _⟩, ⟨by (with_reducible repeat (first | refine blk_drewN ?_ _ | refine blk_drew ?_ | refine blk_alloc ?_ _)); exact BK190.out⟩, ⟨by repeat (first | (with_reducible first | exact HB.out | apply below_alloc | apply pw_below_drewN | apply below_drew1 | refine below_set ?_ GE190.out) | exact HB.out)⟩⟩
      · rw [if_neg c6] at H
        have c6b0 : (a0_0 == 1) = false := beq_eq_false_iff_ne.mpr c6
        have c6b1 : (a0_0 != 1) = true := bne_iff_ne.mpr c6
        replace H := Option.bind_eq_some_iff.mp H
        obtain ⟨t191, A80, H⟩ := H
        replace H : (bywashlaw11_BlockOthers.j0 k (!t191) a0_0 a0_1 a0_2 a0_3) = some r := H
        have A8 := Aside0.mk A80
        clear A80
        have H' := Aside0.mk H
        clear H
        have hcz9_0 : w3.cell? ⟨gb190, 0, none⟩ = some (.int .i64 a0_0) := (blk_cell BK190.out 0).trans rfl
        have hcz9_1 : w3.cell? ⟨gb190, 1, none⟩ = some (.int .i64 a0_1) := (blk_cell BK190.out 1).trans rfl
        have hcz9_2 : w3.cell? ⟨gb190, 2, none⟩ = some (.int .i64 a0_2) := (blk_cell BK190.out 2).trans rfl
        have hcz9_3 : w3.cell? ⟨gb190, 3, none⟩ = some (.string a0_3) := (blk_cell BK190.out 3).trans rfl
        have hfz9_0 := blk_frozen BK190.out 0
        have hfz9_1 := blk_frozen BK190.out 1
        have hfz9_2 := blk_frozen BK190.out 2
        have hfz9_3 := blk_frozen BK190.out 3
        go_wp2_with (first | (go_at_call 10; (with_reducible refine (bywashlaw11_alive.calls k  t191 _ A8.out).mono ?_); rintro e w10 ⟨rfl, hb⟩; have n0_ := Aside0.mk (blk_below (g := gb190) (o := .cells #[.int .i64 a0_0, .int .i64 a0_1, .int .i64 a0_2, .string a0_3] 39 (0, 0)) (by (with_reducible repeat (first | refine blk_drewN ?_ _ | refine blk_drew ?_ | refine blk_alloc ?_ _)); exact BK190.out) hb); have n1_ := Aside0.mk (below_step (by repeat (first | (with_reducible first | exact HB.out | apply below_alloc | apply pw_below_drewN | apply below_drew1 | refine below_set ?_ GE190.out) | exact HB.out)) hb); clear BK190; clear HB; have BK190 := n0_; have HB := n1_; clear n0_ n1_; (try clear hb); (try clear hb2); (try clear hk); (try clear hi)))
        go_meet
        case rel => exact ⟨_, (!t191), (by first | rfl | (simp; done) | (simp [*]; done)), H', ⟨by first | omega | exact Nat.le_refl _⟩, ⟨by (with_reducible repeat (first | refine blk_drewN ?_ _ | refine blk_drew ?_ | refine blk_alloc ?_ _)); exact BK190.out⟩, ⟨by repeat (first | (with_reducible first | exact HB.out | apply below_alloc | apply pw_below_drewN | apply below_drew1 | refine below_set ?_ GE190.out) | exact HB.out)⟩⟩
  case rest =>
    clear HC2
    try clear p2
    try clear c4
    try clear c4b0
    try clear c4b1
    try clear c6
    try clear c6b0
    try clear c6b1
    try clear c9
    try clear hcz5_0
    try clear hcz5_1
    try clear hcz5_2
    try clear hcz5_3
    try clear hcz7_0
    try clear hcz7_1
    try clear hcz7_2
    try clear hcz7_3
    try clear hcz9_0
    try clear hcz9_1
    try clear hcz9_2
    try clear hcz9_3
    try clear hfz5_0
    try clear hfz5_1
    try clear hfz5_2
    try clear hfz5_3
    try clear hfz7_0
    try clear hfz7_1
    try clear hfz7_2
    try clear hfz7_3
    try clear hfz9_0
    try clear hfz9_1
    try clear hfz9_2
    try clear hfz9_3
    obtain ⟨kq, x22_1, rfl, HA, HJ1, BK190, HB⟩ := hcut
    cases kq with
    | zero => exact absurd HA.out (by simp [bywashlaw11_BlockOthers.j0])
    | succ kj1 =>
      have H := HA.out
      clear HA
      simp only [bywashlaw11_BlockOthers.j0] at H
      by_cases c11 : x22_1 = true
      · subst c11
        have H1 : ((bywashlaw11_alive.f kj1).bind fun t192 => (some t192)) = some r := by rw [if_pos rfl] at H; exact H
        clear H
        have H := H1
        clear H1
        replace H := Option.bind_eq_some_iff.mp H
        obtain ⟨t192, A120, H⟩ := H
        replace H : (some t192) = some r := H
        have A12 := Aside0.mk A120
        clear A120
        obtain rfl := Option.some.inj H
        go_wp2_with (first | ((with_reducible refine gate_callee (f := 10) rfl ?_); refine goesL_ (some 23) rfl rfl Try.func10 (by kernel_rfl) rfl #[] rfl (by (try simp only [List.map_toArray, List.map_cons, List.map_nil]); first | done | rfl | (simp only [List.length_drop, List.length_take]; rfl)) ?_; (with_reducible refine (bywashlaw11_alive.calls kj1  t192 _ A12.out).mono ?_); rintro e w13 ⟨rfl, hb⟩; refine ⟨_, rfl, ?_⟩; have n0_ := Aside0.mk (blk_below (g := gb190) (o := .cells #[.int .i64 a0_0, .int .i64 a0_1, .int .i64 a0_2, .string a0_3] 39 (0, 0)) (by (with_reducible repeat (first | refine blk_drewN ?_ _ | refine blk_drew ?_ | refine blk_alloc ?_ _)); exact BK190.out) hb); have n1_ := Aside0.mk (below_step (by repeat (first | (with_reducible first | exact HB.out | apply below_alloc | apply pw_below_drewN | apply below_drew1 | refine below_set ?_ GE190.out) | exact HB.out)) hb); clear BK190; clear HB; have BK190 := n0_; have HB := n1_; clear n0_ n1_; (try clear hb); (try clear hb2); (try clear hk); (try clear hi)))
        go_ret
        exact ⟨by first | rfl | (simp [errW_none, errW_some] <;> rfl) | (simp [*, errW_none, errW_some] <;> rfl), by repeat (first | (with_reducible first | exact HB.out | apply below_alloc | apply pw_below_drewN | apply below_drew1 | refine below_set ?_ GE190.out) | exact HB.out)⟩
      · replace c11 := Bool.eq_false_iff.mpr c11
        subst c11
        have H1 : ((block_New.f 1000).bind fun bt193 => ((block_Blocks_Take.f kj1 bt193.1 bt193.2.1 bt193.2.2.1 bt193.2.2.2 a0_0 a0_1 a0_2 a0_3).bind fun bt198 => ((bywashref1_Check.f kj1 a0_0 a0_1 a0_2 a0_3).bind fun bt208 => (if bt208.2 = 0 then (if a0_0 = 9 then (bywashlaw11_BlockOthers.j1 kj1 bt198.2.2.2.1 bt198.2.2.2.2.1 11 bt198.2.2.2.2.2.1 bt198.2.2.2.2.2.2.1 bt198.2.2.2.2.2.2.2.1 bt198.2.2.2.2.2.2.2.2 bt198.1 bt198.2.1 bt198.2.2.1) else (bywashlaw11_BlockOthers.j1 kj1 bt198.2.2.2.1 bt198.2.2.2.2.1 0 bt198.2.2.2.2.2.1 bt198.2.2.2.2.2.2.1 bt198.2.2.2.2.2.2.2.1 bt198.2.2.2.2.2.2.2.2 bt198.1 bt198.2.1 bt198.2.2.1)) else (bywashlaw11_BlockOthers.j1 kj1 bt198.2.2.2.1 bt198.2.2.2.2.1 1 bt198.2.2.2.2.2.1 bt198.2.2.2.2.2.2.1 bt198.2.2.2.2.2.2.2.1 bt198.2.2.2.2.2.2.2.2 bt198.1 bt198.2.1 bt198.2.2.1))))) = some r := by rw [if_neg (show ¬ (false = true) by decide)] at H; exact H
        clear H
        have H := H1
        clear H1
        replace H := Option.bind_eq_some_iff.mp H
        obtain ⟨⟨t193, t194, t195, t196⟩, A140, H⟩ := H
        replace H : ((block_Blocks_Take.f kj1 t193 t194 t195 t196 a0_0 a0_1 a0_2 a0_3).bind fun bt198 => ((bywashref1_Check.f kj1 a0_0 a0_1 a0_2 a0_3).bind fun bt208 => (if bt208.2 = 0 then (if a0_0 = 9 then (bywashlaw11_BlockOthers.j1 kj1 bt198.2.2.2.1 bt198.2.2.2.2.1 11 bt198.2.2.2.2.2.1 bt198.2.2.2.2.2.2.1 bt198.2.2.2.2.2.2.2.1 bt198.2.2.2.2.2.2.2.2 bt198.1 bt198.2.1 bt198.2.2.1) else (bywashlaw11_BlockOthers.j1 kj1 bt198.2.2.2.1 bt198.2.2.2.2.1 0 bt198.2.2.2.2.2.1 bt198.2.2.2.2.2.2.1 bt198.2.2.2.2.2.2.2.1 bt198.2.2.2.2.2.2.2.2 bt198.1 bt198.2.1 bt198.2.2.1)) else (bywashlaw11_BlockOthers.j1 kj1 bt198.2.2.2.1 bt198.2.2.2.2.1 1 bt198.2.2.2.2.2.1 bt198.2.2.2.2.2.2.1 bt198.2.2.2.2.2.2.2.1 bt198.2.2.2.2.2.2.2.2 bt198.1 bt198.2.1 bt198.2.2.1)))) = some r := H
        have A14 := Aside0.mk A140
        clear A140
        replace H := Option.bind_eq_some_iff.mp H
        obtain ⟨⟨t198, t199, t200, t201, t202, t203, t204, t205, t206⟩, A150, H⟩ := H
        replace H : ((bywashref1_Check.f kj1 a0_0 a0_1 a0_2 a0_3).bind fun bt208 => (if bt208.2 = 0 then (if a0_0 = 9 then (bywashlaw11_BlockOthers.j1 kj1 t201 t202 11 t203 t204 t205 t206 t198 t199 t200) else (bywashlaw11_BlockOthers.j1 kj1 t201 t202 0 t203 t204 t205 t206 t198 t199 t200)) else (bywashlaw11_BlockOthers.j1 kj1 t201 t202 1 t203 t204 t205 t206 t198 t199 t200))) = some r := H
        have A15 := Aside0.mk A150
        clear A150
        replace H := Option.bind_eq_some_iff.mp H
        obtain ⟨⟨t208, t209⟩, A160, H⟩ := H
        replace H : (if t209 = 0 then (if a0_0 = 9 then (bywashlaw11_BlockOthers.j1 kj1 t201 t202 11 t203 t204 t205 t206 t198 t199 t200) else (bywashlaw11_BlockOthers.j1 kj1 t201 t202 0 t203 t204 t205 t206 t198 t199 t200)) else (bywashlaw11_BlockOthers.j1 kj1 t201 t202 1 t203 t204 t205 t206 t198 t199 t200)) = some r := H
        have A16 := Aside0.mk A160
        clear A160
        have HC17 := Aside0.mk H
        clear H
        go_upto_block 0 with (first | ((with_reducible refine gate_callee (f := 15) rfl ?_); refine goesL_ (some 24) rfl rfl Try.func15 (by kernel_rfl) rfl #[.int .i64 1000] rfl (by (try simp only [List.map_toArray, List.map_cons, List.map_nil]); first | done | rfl | (simp only [List.length_drop, List.length_take]; rfl)) ?_; (with_reducible refine (block_New.calls 1000 t193 t194 t195 t196 w _ ?side1 A14.out).mono ?_); (case side1 => repeat (first | (with_reducible first | exact HB.out | apply below_alloc | apply pw_below_drewN | apply below_drew1 | refine below_set ?_ GE190.out) | exact HB.out)); rintro e w18 ⟨g197, rfl, hi, hb, hb2⟩; refine ⟨_, rfl, ?_⟩; have n0_ := Aside0.mk (blk_below (g := gb190) (o := .cells #[.int .i64 a0_0, .int .i64 a0_1, .int .i64 a0_2, .string a0_3] 39 (0, 0)) (by (with_reducible repeat (first | refine blk_drewN ?_ _ | refine blk_drew ?_ | refine blk_alloc ?_ _)); exact BK190.out) hb2); have n1_ := Aside0.mk (hb); have n2_ := Aside0.mk (hi); have n3_ := Aside0.mk (IsS63.ne_blk hi (blk_below (g := gb190) (o := .cells #[.int .i64 a0_0, .int .i64 a0_1, .int .i64 a0_2, .string a0_3] 39 (0, 0)) (by (with_reducible repeat (first | refine blk_drewN ?_ _ | refine blk_drew ?_ | refine blk_alloc ?_ _)); exact BK190.out) hb2) (by decide)); have n4_ := Aside0.mk (Ne.symm (IsS63.ne_blk hi (blk_below (g := gb190) (o := .cells #[.int .i64 a0_0, .int .i64 a0_1, .int .i64 a0_2, .string a0_3] 39 (0, 0)) (by (with_reducible repeat (first | refine blk_drewN ?_ _ | refine blk_drew ?_ | refine blk_alloc ?_ _)); exact BK190.out) hb2) (by decide))); clear BK190; clear HB; have BK190 := n0_; have HB := n1_; have HI197 := n2_; have NB197_190 := n3_; have NB190_197 := n4_; clear n0_ n1_ n2_ n3_ n4_; (try clear hb); (try clear hb2); (try clear hk); (try clear hi); have hnb19 := NB190_197.out; have hnc19 := NB197_190.out; have hcz20_0 : w18.cell? ⟨gb190, 0, none⟩ = some (.int .i64 a0_0) := (blk_cell BK190.out 0).trans rfl; have hcz20_1 : w18.cell? ⟨gb190, 1, none⟩ = some (.int .i64 a0_1) := (blk_cell BK190.out 1).trans rfl; have hcz20_2 : w18.cell? ⟨gb190, 2, none⟩ = some (.int .i64 a0_2) := (blk_cell BK190.out 2).trans rfl; have hcz20_3 : w18.cell? ⟨gb190, 3, none⟩ = some (.string a0_3) := (blk_cell BK190.out 3).trans rfl; have hfz20_0 := blk_frozen BK190.out 0; have hfz20_1 := blk_frozen BK190.out 1; have hfz20_2 := blk_frozen BK190.out 2; have hfz20_3 := blk_frozen BK190.out 3) | ((with_reducible refine gate_callee (f := 16) rfl ?_); refine goesL_ (some 30) rfl rfl Try.func16 (by kernel_rfl) rfl #[.pointer (some ⟨g197, 0, none⟩), .agg #[.int .i64 a0_0, .int .i64 a0_1, .int .i64 a0_2, .string a0_3]] rfl (by (try simp only [List.map_toArray, List.map_cons, List.map_nil]); first | done | rfl | (simp only [List.length_drop, List.length_take]; rfl)) ?_; (with_reducible refine (block_Blocks_Take.calls kj1 g197 t193 t194 t195 t196 a0_0 a0_1 a0_2 a0_3 t198 t199 t200 t201 t202 t203 t204 t205 t206 w _ ?side1 ?side2 A15.out).mono ?_); (case side1 => repeat (first | (with_reducible first | exact HI197.out | apply IsS63.alloc | apply IsS63.drewN | apply IsS63.drew | apply IsS63.set_0 | apply IsS63.set_1 | apply IsS63.set_2 | apply IsS63.set_3 | refine IsS63.far ?_ NB197_190.out _ | apply IsS63.far (hne := NB197_190.out)) | exact HI197.out)); (case side2 => repeat (first | (with_reducible first | exact HB.out | apply below_alloc | apply pw_below_drewN | apply below_drew1 | refine below_set ?_ (IsS63.ge HI197.out) | refine below_set ?_ GE190.out) | exact HB.out)); rintro e w21 ⟨rfl, hi, hb, hk⟩; refine ⟨_, rfl, ?_⟩; have n0_ := Aside0.mk (KeepBut.blk hk (g' := gb190) (o := .cells #[.int .i64 a0_0, .int .i64 a0_1, .int .i64 a0_2, .string a0_3] 39 (0, 0)) (by (with_reducible repeat (first | refine blk_drewN ?_ _ | refine blk_drew ?_ | refine blk_alloc ?_ _)); exact BK190.out) NB190_197.out (by simp)); have n1_ := Aside0.mk (hb); have n2_ := Aside0.mk (hi); clear BK190; clear HB; clear HI197; have BK190 := n0_; have HB := n1_; have HI197 := n2_; clear n0_ n1_ n2_; (try clear hb); (try clear hb2); (try clear hk); (try clear hi)) | ((with_reducible refine gate_dst (N := 4) rfl ?_); refine box_event ?hg (N := 4) ?hd (cs := #[.int .i64 0, .string (⟨#[]⟩ : ByteArray), .bool false]) (t := 41) ?hr ?_; (case hd => rfl); (case hg => rfl); (case hr => first | (go_simp; done) | (go_simp; rfl)); intro gb207 hg w22 hbox hb; have n0_ := Aside0.mk (blk_below (g := gb190) (o := .cells #[.int .i64 a0_0, .int .i64 a0_1, .int .i64 a0_2, .string a0_3] 39 (0, 0)) (by (with_reducible repeat (first | refine blk_drewN ?_ _ | refine blk_drew ?_ | refine blk_alloc ?_ _)); exact BK190.out) hb); have n1_ := Aside0.mk (IsS63.below (by repeat (first | (with_reducible first | exact HI197.out | apply IsS63.alloc | apply IsS63.drewN | apply IsS63.drew | apply IsS63.set_0 | apply IsS63.set_1 | apply IsS63.set_2 | apply IsS63.set_3 | refine IsS63.far ?_ NB197_190.out _ | apply IsS63.far (hne := NB197_190.out)) | exact HI197.out)) hb); have n2_ := Aside0.mk (below_step (by repeat (first | (with_reducible first | exact HB.out | apply below_alloc | apply pw_below_drewN | apply below_drew1 | refine below_set ?_ (IsS63.ge HI197.out) | refine below_set ?_ GE190.out) | exact HB.out)) hb); have n3_ := Aside0.mk (hbox); have n4_ := Aside0.mk ((by rw [hg]; exact (below_size (by repeat (first | (with_reducible first | exact HB.out | apply below_alloc | apply pw_below_drewN | apply below_drew1 | refine below_set ?_ (IsS63.ge HI197.out) | refine below_set ?_ GE190.out) | exact HB.out))) : w.heap.size ≤ gb207)); have n5_ := Aside0.mk ((by rw [hg]; exact (below_size (by repeat (first | (with_reducible first | exact HB.out | apply below_alloc | apply pw_below_drewN | apply below_drew1 | refine below_set ?_ (IsS63.ge HI197.out) | refine below_set ?_ GE190.out) | exact HB.out))) : w.heap.size ≤ gb207)); have n6_ := Aside0.mk ((by rw [hg]; exact Nat.ne_of_lt (blk_lt (g := gb190) (o := .cells #[.int .i64 a0_0, .int .i64 a0_1, .int .i64 a0_2, .string a0_3] 39 (0, 0)) (by (with_reducible repeat (first | refine blk_drewN ?_ _ | refine blk_drew ?_ | refine blk_alloc ?_ _)); exact BK190.out)) : gb190 ≠ gb207)); have n7_ := Aside0.mk ((by rw [hg]; exact Nat.ne_of_gt (blk_lt (g := gb190) (o := .cells #[.int .i64 a0_0, .int .i64 a0_1, .int .i64 a0_2, .string a0_3] 39 (0, 0)) (by (with_reducible repeat (first | refine blk_drewN ?_ _ | refine blk_drew ?_ | refine blk_alloc ?_ _)); exact BK190.out)) : gb207 ≠ gb190)); have n8_ := Aside0.mk ((by rw [hg]; exact Nat.ne_of_lt (IsS63.lt (show IsS63 w _ g197 t203 t204 t205 t206 from by repeat (first | (with_reducible first | exact HI197.out | apply IsS63.alloc | apply IsS63.drewN | apply IsS63.drew | apply IsS63.set_0 | apply IsS63.set_1 | apply IsS63.set_2 | apply IsS63.set_3 | refine IsS63.far ?_ NB197_190.out _ | apply IsS63.far (hne := NB197_190.out)) | exact HI197.out))) : g197 ≠ gb207)); have n9_ := Aside0.mk ((by rw [hg]; exact Nat.ne_of_gt (IsS63.lt (show IsS63 w _ g197 t203 t204 t205 t206 from by repeat (first | (with_reducible first | exact HI197.out | apply IsS63.alloc | apply IsS63.drewN | apply IsS63.drew | apply IsS63.set_0 | apply IsS63.set_1 | apply IsS63.set_2 | apply IsS63.set_3 | refine IsS63.far ?_ NB197_190.out _ | apply IsS63.far (hne := NB197_190.out)) | exact HI197.out))) : gb207 ≠ g197)); clear BK190; clear HI197; clear HB; have BK190 := n0_; have HI197 := n1_; have HB := n2_; have BK207 := n3_; have GW207 := n4_; have GE207 := n5_; have NB190_207 := n6_; have NB207_190 := n7_; have NB197_207 := n8_; have NB207_197 := n9_; clear n0_ n1_ n2_ n3_ n4_ n5_ n6_ n7_ n8_ n9_; clear hb hbox hg; have hnb23 := NB207_190.out; have hnc23 := NB190_207.out; have hnb24 := NB207_197.out; have hnc24 := NB197_207.out; have hcz25_0 : w22.cell? ⟨gb207, 0, none⟩ = some (.int .i64 0) := (blk_cell BK207.out 0).trans rfl; have hcz25_1 : w22.cell? ⟨gb207, 1, none⟩ = some (.string (⟨#[]⟩ : ByteArray)) := (blk_cell BK207.out 1).trans rfl; have hcz25_2 : w22.cell? ⟨gb207, 2, none⟩ = some (.bool false) := (blk_cell BK207.out 2).trans rfl; have hfz25_0 := blk_frozen BK207.out 0; have hfz25_1 := blk_frozen BK207.out 1; have hfz25_2 := blk_frozen BK207.out 2; have hcz26_0 : w22.cell? ⟨gb190, 0, none⟩ = some (.int .i64 a0_0) := (blk_cell BK190.out 0).trans rfl; have hcz26_1 : w22.cell? ⟨gb190, 1, none⟩ = some (.int .i64 a0_1) := (blk_cell BK190.out 1).trans rfl; have hcz26_2 : w22.cell? ⟨gb190, 2, none⟩ = some (.int .i64 a0_2) := (blk_cell BK190.out 2).trans rfl; have hcz26_3 : w22.cell? ⟨gb190, 3, none⟩ = some (.string a0_3) := (blk_cell BK190.out 3).trans rfl; have hfz26_0 := blk_frozen BK190.out 0; have hfz26_1 := blk_frozen BK190.out 1; have hfz26_2 := blk_frozen BK190.out 2; have hfz26_3 := blk_frozen BK190.out 3) | ((with_reducible refine gate_callee (f := 20) rfl ?_); refine goesL_ (some 36) rfl rfl Try.func20 (by kernel_rfl) rfl #[.agg #[.int .i64 a0_0, .int .i64 a0_1, .int .i64 a0_2, .string a0_3]] rfl (by (try simp only [List.map_toArray, List.map_cons, List.map_nil]); first | done | rfl | (simp only [List.length_drop, List.length_take]; rfl)) ?_; (with_reducible refine (bywashref1_Check.calls kj1 a0_0 a0_1 a0_2 a0_3 t208 t209 _ A16.out).mono ?_); rintro e w27 ⟨rfl, hb⟩; refine ⟨_, rfl, ?_⟩; have n0_ := Aside0.mk (blk_below (g := gb190) (o := .cells #[.int .i64 a0_0, .int .i64 a0_1, .int .i64 a0_2, .string a0_3] 39 (0, 0)) (by (with_reducible repeat (first | refine blk_drewN ?_ _ | refine blk_drew ?_ | refine blk_alloc ?_ _)); refine blk_far ?_ NB190_207.out _; (with_reducible repeat (first | refine blk_drewN ?_ _ | refine blk_drew ?_ | refine blk_alloc ?_ _)); refine blk_far ?_ NB190_207.out _; (with_reducible repeat (first | refine blk_drewN ?_ _ | refine blk_drew ?_ | refine blk_alloc ?_ _)); refine blk_far ?_ NB190_207.out _; (with_reducible repeat (first | refine blk_drewN ?_ _ | refine blk_drew ?_ | refine blk_alloc ?_ _)); exact BK190.out) hb); have n1_ := Aside0.mk (IsS63.below (show IsS63 w (((w22.setCell ⟨gb207, 0, none⟩ (.int .i64 t198)).setCell ⟨gb207, 1, none⟩ (.string t199)).setCell ⟨gb207, 2, none⟩ (.bool t200)) g197 t203 t204 t205 t206 from by repeat (first | (with_reducible first | exact HI197.out | apply IsS63.alloc | apply IsS63.drewN | apply IsS63.drew | apply IsS63.set_0 | apply IsS63.set_1 | apply IsS63.set_2 | apply IsS63.set_3 | refine IsS63.far ?_ NB197_190.out _ | apply IsS63.far (hne := NB197_190.out) | refine IsS63.far ?_ NB197_207.out _ | apply IsS63.far (hne := NB197_207.out)) | exact HI197.out)) hb); have n2_ := Aside0.mk (blk_below (g := gb207) (o := .cells #[.int .i64 t198, .string t199, .bool t200] 41 (0, 0)) (by (with_reducible repeat (first | refine blk_drewN ?_ _ | refine blk_drew ?_ | refine blk_alloc ?_ _)); refine blk_put (cs := #[.int .i64 t198, .string t199, .bool false]) ?_ 2 _ rfl; (with_reducible repeat (first | refine blk_drewN ?_ _ | refine blk_drew ?_ | refine blk_alloc ?_ _)); refine blk_put (cs := #[.int .i64 t198, .string (⟨#[]⟩ : ByteArray), .bool false]) ?_ 1 _ rfl; (with_reducible repeat (first | refine blk_drewN ?_ _ | refine blk_drew ?_ | refine blk_alloc ?_ _)); refine blk_put (cs := #[.int .i64 0, .string (⟨#[]⟩ : ByteArray), .bool false]) ?_ 0 _ rfl; (with_reducible repeat (first | refine blk_drewN ?_ _ | refine blk_drew ?_ | refine blk_alloc ?_ _)); exact BK207.out) hb); have n3_ := Aside0.mk (below_step (by repeat (first | (with_reducible first | exact HB.out | apply below_alloc | apply pw_below_drewN | apply below_drew1 | refine below_set ?_ (IsS63.ge HI197.out) | refine below_set ?_ GE190.out | refine below_set ?_ GE207.out) | exact HB.out)) hb); clear BK190; clear HI197; clear BK207; clear HB; have BK190 := n0_; have HI197 := n1_; have BK207 := n2_; have HB := n3_; clear n0_ n1_ n2_ n3_; (try clear hb); (try clear hb2); (try clear hk); (try clear hi)))
        (try simp only [Act.put, List.setIfInBounds_toArray, List.set_cons_zero, List.set_cons_succ])
        go_cut [9] (fun v9 wc => ∃ (kq : Nat) (x9_16 : Int), v9 = .int .i64 x9_16 ∧ Aside0 (bywashlaw11_BlockOthers.j1 kq t201 t202 x9_16 t203 t204 t205 t206 t198 t199 t200 = some r) ∧ Aside0 (kq ≤ kj1) ∧ Aside0 (wc.heap[gb190]? = some (.cells #[.int .i64 a0_0, .int .i64 a0_1, .int .i64 a0_2, .string a0_3] 39 (0, 0))) ∧ Aside0 (wc.heap[gb207]? = some (.cells #[.int .i64 t198, .string t199, .bool t200] 41 (0, 0))) ∧ Aside0 (IsS63 w wc g197 t203 t204 t205 t206) ∧ Aside0 (Below w.heap.size w wc))
        case first =>
          have H := HC17.out
          clear HC17
          by_cases c28 : t209 = 0
          · rw [if_pos c28] at H
            have c28b0 : (t209 == 0) = true := beq_iff_eq.mpr c28
            have c28b1 : (t209 != 0) = false := bne_eq_false_iff_eq.mpr c28
            clear c28
            (first | rw [c28b0] | (simp only [i64_w, i32_w]; rw [c28b0]) | skip)
            by_cases c29 : a0_0 = 9
            · rw [if_pos c29] at H
              have c29b0 : (a0_0 == 9) = true := beq_iff_eq.mpr c29
              have c29b1 : (a0_0 != 9) = false := bne_eq_false_iff_eq.mpr c29
              clear c29
              have H' := Aside0.mk H
              clear H
              have hnb30 := NB190_207.out
              have hnc30 := NB207_190.out
              have hnb31 := NB190_197.out
              have hnc31 := NB197_190.out
              have hcz32_0 : w27.cell? ⟨gb190, 0, none⟩ = some (.int .i64 a0_0) := (blk_cell BK190.out 0).trans rfl
              have hcz32_1 : w27.cell? ⟨gb190, 1, none⟩ = some (.int .i64 a0_1) := (blk_cell BK190.out 1).trans rfl
              have hcz32_2 : w27.cell? ⟨gb190, 2, none⟩ = some (.int .i64 a0_2) := (blk_cell BK190.out 2).trans rfl
              have hcz32_3 : w27.cell? ⟨gb190, 3, none⟩ = some (.string a0_3) := (blk_cell BK190.out 3).trans rfl
              have hfz32_0 := blk_frozen BK190.out 0
              have hfz32_1 := blk_frozen BK190.out 1
              have hfz32_2 := blk_frozen BK190.out 2
              have hfz32_3 := blk_frozen BK190.out 3
              go_wp2
              go_meet
              case rel => exact ⟨_, (11), (by first | rfl | (simp; done) | (simp [*]; done)), H', ⟨by have := HJ1.out; first | omega | exact Nat.le_refl _⟩, ⟨by (with_reducible repeat (first | refine blk_drewN ?_ _ | refine blk_drew ?_ | refine blk_alloc ?_ _)); exact BK190.out⟩, ⟨by (with_reducible repeat (first | refine blk_drewN ?_ _ | refine blk_drew ?_ | refine blk_alloc ?_ _)); exact BK207.out⟩, ⟨by repeat (first | (with_reducible first | exact HI197.out | apply IsS63.alloc | apply IsS63.drewN | apply IsS63.drew | apply IsS63.set_0 | apply IsS63.set_1 | apply IsS63.set_2 | apply IsS63.set_3 | refine IsS63.far ?_ NB197_190.out _ | apply IsS63.far (hne := NB197_190.out) | refine IsS63.far ?_ NB197_207.out _ | apply IsS63.far (hne := NB197_207.out)) | exact HI197.out)⟩, ⟨by repeat (first | (with_reducible first | exact HB.out | apply below_alloc | apply pw_below_drewN | apply below_drew1 | refine below_set ?_ (IsS63.ge HI197.out) | refine below_set ?_ GE190.out | refine below_set ?_ GE207.out) | exact HB.out)⟩⟩
            · rw [if_neg c29] at H
              have c29b0 : (a0_0 == 9) = false := beq_eq_false_iff_ne.mpr c29
              have c29b1 : (a0_0 != 9) = true := bne_iff_ne.mpr c29
              have H' := Aside0.mk H
              clear H
              have hnb33 := NB190_207.out
              have hnc33 := NB207_190.out
              have hnb34 := NB190_197.out
              have hnc34 := NB197_190.out
              have hcz35_0 : w27.cell? ⟨gb190, 0, none⟩ = some (.int .i64 a0_0) := (blk_cell BK190.out 0).trans rfl
              have hcz35_1 : w27.cell? ⟨gb190, 1, none⟩ = some (.int .i64 a0_1) := (blk_cell BK190.out 1).trans rfl
              have hcz35_2 : w27.cell? ⟨gb190, 2, none⟩ = some (.int .i64 a0_2) := (blk_cell BK190.out 2).trans rfl
              have hcz35_3 : w27.cell? ⟨gb190, 3, none⟩ = some (.string a0_3) := (blk_cell BK190.out 3).trans rfl
              have hfz35_0 := blk_frozen BK190.out 0
              have hfz35_1 := blk_frozen BK190.out 1
              have hfz35_2 := blk_frozen BK190.out 2
              have hfz35_3 := blk_frozen BK190.out 3
              go_wp2
              go_meet
              case rel => exact ⟨_, (0), (by first | rfl | (simp; done) | (simp [*]; done)), H', ⟨by have := HJ1.out; first | omega | exact Nat.le_refl _⟩, ⟨by (with_reducible repeat (first | refine blk_drewN ?_ _ | refine blk_drew ?_ | refine blk_alloc ?_ _)); exact BK190.out⟩, ⟨by (with_reducible repeat (first | refine blk_drewN ?_ _ | refine blk_drew ?_ | refine blk_alloc ?_ _)); exact BK207.out⟩, ⟨by repeat (first | (with_reducible first | exact HI197.out | apply IsS63.alloc | apply IsS63.drewN | apply IsS63.drew | apply IsS63.set_0 | apply IsS63.set_1 | apply IsS63.set_2 | apply IsS63.set_3 | refine IsS63.far ?_ NB197_190.out _ | apply IsS63.far (hne := NB197_190.out) | refine IsS63.far ?_ NB197_207.out _ | apply IsS63.far (hne := NB197_207.out)) | exact HI197.out)⟩, ⟨by repeat (first | (with_reducible first | exact HB.out | apply below_alloc | apply pw_below_drewN | apply below_drew1 | refine below_set ?_ (IsS63.ge HI197.out) | refine below_set ?_ GE190.out | refine below_set ?_ GE207.out) | exact HB.out)⟩⟩
          · rw [if_neg c28] at H
            have c28b0 : (t209 == 0) = false := beq_eq_false_iff_ne.mpr c28
            have c28b1 : (t209 != 0) = true := bne_iff_ne.mpr c28
            (first | rw [c28b0] | (simp only [i64_w, i32_w]; rw [c28b0]) | skip)
            have H' := Aside0.mk H
            clear H
            go_wp2
            go_meet
            case rel => exact ⟨_, (1), (by first | rfl | (simp; done) | (simp [*]; done)), H', ⟨by have := HJ1.out; first | omega | exact Nat.le_refl _⟩, ⟨by (with_reducible repeat (first | refine blk_drewN ?_ _ | refine blk_drew ?_ | refine blk_alloc ?_ _)); exact BK190.out⟩, ⟨by (with_reducible repeat (first | refine blk_drewN ?_ _ | refine blk_drew ?_ | refine blk_alloc ?_ _)); exact BK207.out⟩, ⟨by repeat (first | (with_reducible first | exact HI197.out | apply IsS63.alloc | apply IsS63.drewN | apply IsS63.drew | apply IsS63.set_0 | apply IsS63.set_1 | apply IsS63.set_2 | apply IsS63.set_3 | refine IsS63.far ?_ NB197_190.out _ | apply IsS63.far (hne := NB197_190.out) | refine IsS63.far ?_ NB197_207.out _ | apply IsS63.far (hne := NB197_207.out)) | exact HI197.out)⟩, ⟨by repeat (first | (with_reducible first | exact HB.out | apply below_alloc | apply pw_below_drewN | apply below_drew1 | refine below_set ?_ (IsS63.ge HI197.out) | refine below_set ?_ GE190.out | refine below_set ?_ GE207.out) | exact HB.out)⟩⟩
        case rest =>
          clear HC17
          try clear c1
          try clear c2
          try clear p2
          try clear c3
          try clear c4
          try clear c4b0
          try clear c4b1
          try clear c6
          try clear c6b0
          try clear c6b1
          try clear c9
          try clear c10
          try clear c11
          try clear c15
          try clear c16
          try clear c19
          try clear c20
          try clear c23
          try clear c24
          try clear c28
          try clear c28b0
          try clear c28b1
          try clear c29
          try clear c29b0
          try clear c29b1
          try clear c30
          try clear c31
          try clear c33
          try clear c34
          try clear hcz20_0
          try clear hcz20_1
          try clear hcz20_2
          try clear hcz20_3
          try clear hcz25_0
          try clear hcz25_1
          try clear hcz25_2
          try clear hcz26_0
          try clear hcz26_1
          try clear hcz26_2
          try clear hcz26_3
          try clear hcz32_0
          try clear hcz32_1
          try clear hcz32_2
          try clear hcz32_3
          try clear hcz35_0
          try clear hcz35_1
          try clear hcz35_2
          try clear hcz35_3
          try clear hcz5_0
          try clear hcz5_1
          try clear hcz5_2
          try clear hcz5_3
          try clear hcz7_0
          try clear hcz7_1
          try clear hcz7_2
          try clear hcz7_3
          try clear hcz9_0
          try clear hcz9_1
          try clear hcz9_2
          try clear hcz9_3
          try clear hfz20_0
          try clear hfz20_1
          try clear hfz20_2
          try clear hfz20_3
          try clear hfz25_0
          try clear hfz25_1
          try clear hfz25_2
          try clear hfz26_0
          try clear hfz26_1
          try clear hfz26_2
          try clear hfz26_3
          try clear hfz32_0
          try clear hfz32_1
          try clear hfz32_2
          try clear hfz32_3
          try clear hfz35_0
          try clear hfz35_1
          try clear hfz35_2
          try clear hfz35_3
          try clear hfz5_0
          try clear hfz5_1
          try clear hfz5_2
          try clear hfz5_3
          try clear hfz7_0
          try clear hfz7_1
          try clear hfz7_2
          try clear hfz7_3
          try clear hfz9_0
          try clear hfz9_1
          try clear hfz9_2
          try clear hfz9_3
          try clear p2
          obtain ⟨kq, x9_16, rfl, HA, HJ16, BK190, BK207, HI197, HB⟩ := hcut
          cases kq with
          | zero => exact absurd HA.out (by simp [bywashlaw11_BlockOthers.j1])
          | succ kj16 =>
            have H := HA.out
            clear HA
            simp only [bywashlaw11_BlockOthers.j1] at H
            by_cases c36 : t201 = true
            · subst c36
              have H1 : (some false) = some r := by rw [if_pos rfl] at H; exact H
              clear H
              have H := H1
              clear H1
              obtain rfl := Option.some.inj H
              go_wp2
              go_ret
              exact ⟨by first | rfl | (simp [errW_none, errW_some] <;> rfl) | (simp [*, errW_none, errW_some] <;> rfl), by repeat (first | (with_reducible first | exact HB.out | apply below_alloc | apply pw_below_drewN | apply below_drew1 | refine below_set ?_ (IsS63.ge HI197.out) | refine below_set ?_ GE190.out | refine below_set ?_ GE207.out) | exact HB.out)⟩
            · replace c36 := Bool.eq_false_iff.mpr c36
              subst c36
              have H1 : (if t202 = x9_16 then (if (t198 == 0 && (t199.toList == ([] : List UInt8) && (!t200))) = true then ((block_Blocks_Open.f t203 t204 t205 t206).bind fun bt210 => (some (bt210.1 == 0))) else (some false)) else (some false)) = some r := by rw [if_neg (show ¬ (false = true) by decide)] at H; exact H
              clear H
              have H := H1
              clear H1
              by_cases c37 : t202 = x9_16
              · rw [if_pos c37] at H
                have c37b0 : (t202 == x9_16) = true := beq_iff_eq.mpr c37
                have c37b1 : (t202 != x9_16) = false := bne_eq_false_iff_eq.mpr c37
                clear c37
                by_cases c38 : (t198 == 0 && (t199.toList == ([] : List UInt8) && (!t200))) = true
                · rw [if_pos c38] at H
                  have c38b0 : (t198 == 0 && (t199.toList == ([] : List UInt8) && (!t200))) = true := c38
                  have c38p : (t198 = 0 ∧ t199.toList = ([] : List UInt8) ∧ t200 = false) = True := eq_true (by simpa using c38b0)
                  (try (have c38b1 : decide (t198 = 0 && (t199.toList == ([] : List UInt8) && (!t200))) = true := by simpa using c38))
                  (try (have c38b2 : (t198 == 0 && (t199.toList == ([] : List UInt8) && (!t200))) = true := by simpa using c38))
                  clear c38
                  replace H := Option.bind_eq_some_iff.mp H
                  obtain ⟨⟨t210, t211, t212, t213, t214⟩, A390, H⟩ := H
                  replace H : (some (t210 == 0)) = some r := H
                  have A39 := Aside0.mk A390
                  clear A390
                  obtain rfl := Option.some.inj H
                  have hnb40 := NB207_190.out
                  have hnc40 := NB190_207.out
                  have hnb41 := NB207_197.out
                  have hnc41 := NB197_207.out
                  have hcz42_0 : wc.cell? ⟨gb207, 0, none⟩ = some (.int .i64 t198) := (blk_cell BK207.out 0).trans rfl
                  have hcz42_1 : wc.cell? ⟨gb207, 1, none⟩ = some (.string t199) := (blk_cell BK207.out 1).trans rfl
                  have hcz42_2 : wc.cell? ⟨gb207, 2, none⟩ = some (.bool t200) := (blk_cell BK207.out 2).trans rfl
                  have hfz42_0 := blk_frozen BK207.out 0
                  have hfz42_1 := blk_frozen BK207.out 1
                  have hfz42_2 := blk_frozen BK207.out 2
                  go_wp2_with (first | (go_at_call 17; (with_reducible refine (block_Blocks_Open.calls g197 t203 t204 t205 t206 t210 t211 t212 t213 t214 w _ ?side1 ?side2 A39.out).mono ?_); (case side1 => repeat (first | (with_reducible first | exact HI197.out | apply IsS63.alloc | apply IsS63.drewN | apply IsS63.drew | apply IsS63.set_0 | apply IsS63.set_1 | apply IsS63.set_2 | apply IsS63.set_3 | refine IsS63.far ?_ NB197_190.out _ | apply IsS63.far (hne := NB197_190.out) | refine IsS63.far ?_ NB197_207.out _ | apply IsS63.far (hne := NB197_207.out)) | exact HI197.out)); (case side2 => repeat (first | (with_reducible first | exact HB.out | apply below_alloc | apply pw_below_drewN | apply below_drew1 | refine below_set ?_ (IsS63.ge HI197.out) | refine below_set ?_ GE190.out | refine below_set ?_ GE207.out) | exact HB.out)); rintro e w43 ⟨rfl, hi, hb, hk⟩; have n0_ := Aside0.mk (KeepBut.blk hk (g' := gb190) (o := .cells #[.int .i64 a0_0, .int .i64 a0_1, .int .i64 a0_2, .string a0_3] 39 (0, 0)) (by (with_reducible repeat (first | refine blk_drewN ?_ _ | refine blk_drew ?_ | refine blk_alloc ?_ _)); exact BK190.out) NB190_197.out (by simp)); have n1_ := Aside0.mk (KeepBut.blk hk (g' := gb207) (o := .cells #[.int .i64 t198, .string t199, .bool t200] 41 (0, 0)) (by (with_reducible repeat (first | refine blk_drewN ?_ _ | refine blk_drew ?_ | refine blk_alloc ?_ _)); exact BK207.out) NB207_197.out (by simp)); have n2_ := Aside0.mk (hb); have n3_ := Aside0.mk (hi); clear BK190; clear BK207; clear HB; clear HI197; have BK190 := n0_; have BK207 := n1_; have HB := n2_; have HI197 := n3_; clear n0_ n1_ n2_ n3_; (try clear hb); (try clear hb2); (try clear hk); (try clear hi)))
                  go_ret
                  exact ⟨by first | rfl | (simp [errW_none, errW_some] <;> rfl) | (simp [*, errW_none, errW_some] <;> rfl), by repeat (first | (with_reducible first | exact HB.out | apply below_alloc | apply pw_below_drewN | apply below_drew1 | refine below_set ?_ (IsS63.ge HI197.out) | refine below_set ?_ GE190.out | refine below_set ?_ GE207.out) | exact HB.out)⟩
                · rw [if_neg c38] at H
                  have c38b0 : (t198 == 0 && (t199.toList == ([] : List UInt8) && (!t200))) = false := by simpa using c38
                  have c38p : (t198 = 0 ∧ t199.toList = ([] : List UInt8) ∧ t200 = false) = False := eq_false (fun h => by simp [h.1, h.2.1, h.2.2] at c38b0)
                  (try (have c38b1 : decide (t198 = 0 && (t199.toList == ([] : List UInt8) && (!t200))) = false := by simpa using c38))
                  (try (have c38b2 : (t198 == 0 && (t199.toList == ([] : List UInt8) && (!t200))) = false := by simpa using c38))
                  (try (have c38b3 : ¬ (t198 = 0 && (t199.toList == ([] : List UInt8) && (!t200))) := by simpa using c38))
                  clear c38
                  obtain rfl := Option.some.inj H
                  have hnb44 := NB207_190.out
                  have hnc44 := NB190_207.out
                  have hnb45 := NB207_197.out
                  have hnc45 := NB197_207.out
                  have hcz46_0 : wc.cell? ⟨gb207, 0, none⟩ = some (.int .i64 t198) := (blk_cell BK207.out 0).trans rfl
                  have hcz46_1 : wc.cell? ⟨gb207, 1, none⟩ = some (.string t199) := (blk_cell BK207.out 1).trans rfl
                  have hcz46_2 : wc.cell? ⟨gb207, 2, none⟩ = some (.bool t200) := (blk_cell BK207.out 2).trans rfl
                  have hfz46_0 := blk_frozen BK207.out 0
                  have hfz46_1 := blk_frozen BK207.out 1
                  have hfz46_2 := blk_frozen BK207.out 2
                  go_wp2
                  go_ret
                  exact ⟨by first | rfl | (simp [errW_none, errW_some] <;> rfl) | (simp [*, errW_none, errW_some] <;> rfl), by repeat (first | (with_reducible first | exact HB.out | apply below_alloc | apply pw_below_drewN | apply below_drew1 | refine below_set ?_ (IsS63.ge HI197.out) | refine below_set ?_ GE190.out | refine below_set ?_ GE207.out) | exact HB.out)⟩
              · rw [if_neg c37] at H
                have c37b0 : (t202 == x9_16) = false := beq_eq_false_iff_ne.mpr c37
                have c37b1 : (t202 != x9_16) = true := bne_iff_ne.mpr c37
                obtain rfl := Option.some.inj H
                go_wp2
                go_ret
                exact ⟨by first | rfl | (simp [errW_none, errW_some] <;> rfl) | (simp [*, errW_none, errW_some] <;> rfl), by repeat (first | (with_reducible first | exact HB.out | apply below_alloc | apply pw_below_drewN | apply below_drew1 | refine below_set ?_ (IsS63.ge HI197.out) | refine below_set ?_ GE190.out | refine below_set ?_ GE207.out) | exact HB.out)⟩

end Go.Proofs.Ytdonanibfifodaa.PBlockOthers
