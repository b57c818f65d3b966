-- Written by a program of this session (the kit's printer, turned): the functions that the law reaches.
import Derived.Test.YthbhipmflbbgnaaPRuleTellsx0
import Derived.Test.YthbhipmflbbgnaaPRuleTellsx1
import Derived.Test.YthbhipmflbbgnaaPRuleTellsx2
import Derived.Test.YthbhipmflbbgnaaPRuleTellsx4
namespace Go.Proofs.Ythbhipmflbbgnaa.PRuleTells
open Go.RowKit Go.Proofs.YthbhipmflbbgnaaW.PrintWords Go.Proofs.YthbhipmflbbgnaaW.PrintLast Go.Proofs.YthbhipmflbbgnaaW.PrintMore
attribute [local go_sem] max2_int min2_int max_two min_two max_three min_three max_four min_four   -- for this text's walks alone
set_option linter.unusedVariables false
set_option linter.unusedSimpArgs false

/-! ### bywashlaw9_RuleTells: function 3 -/
mutual
def bywashlaw9_RuleTells.j0 : Nat → Int → Int → Bool → Int → Int → Int → ByteArray → Option (Bool)
  | 0, _, _, _, _, _, _, _ => none
  | k + 1, x1, x2, x19, x131000, x131001, x131002, x131003 => if x19 = true then ((bywashlaw9_alive.f k).bind fun t132 => (some t132)) else ((rule_Check.f k x131000 x131001 x131002 x131003).bind fun bt133 => ((bywashref1_Check.f k x131000 x131001 x131002 x131003).bind fun bt135 => (if x1 = 0 then (bywashlaw9_RuleTells.j1 k x1 x2 bt133.1 bt133.2 bt135.1 bt135.2 true) else (if x1 = 1 then (bywashlaw9_RuleTells.j1 k x1 x2 bt133.1 bt133.2 bt135.1 bt135.2 true) else (if x1 = 2 then (bywashlaw9_RuleTells.j1 k x1 x2 bt133.1 bt133.2 bt135.1 bt135.2 true) else (if x1 = 3 then (bywashlaw9_RuleTells.j1 k x1 x2 bt133.1 bt133.2 bt135.1 bt135.2 true) else (bywashlaw9_RuleTells.j1 k x1 x2 bt133.1 bt133.2 bt135.1 bt135.2 (x1 == 9))))))))
def bywashlaw9_RuleTells.j1 : Nat → Int → Int → Int → Int → Int → Int → Bool → Option (Bool)
  | 0, _, _, _, _, _, _, _ => none
  | k + 1, x1, x2, x7, x8, x9, x10, x11 => if x7 = x9 then (if x8 = x10 then ((rule_Known.f x1).bind fun t137 => (if x1 ≥ 0 then (if t137 = true then (if x1 ≤ 9 then ((rule_Streamed.f k x1).bind fun t138 => (if t138 = true then (if x11 = true then ((rule_Error.f x2).bind fun t139 => ((bywashref1_ResetError.f x2).bind fun t140 => (some (t139 == t140)))) else (some false)) else (if x11 = true then (some false) else ((rule_Error.f x2).bind fun t141 => ((bywashref1_ResetError.f x2).bind fun t142 => (some (t141 == t142))))))) else (some false)) else (if x1 ≤ 9 then (some false) else ((rule_Streamed.f k x1).bind fun t143 => (if t143 = true then (if x11 = true then ((rule_Error.f x2).bind fun t144 => ((bywashref1_ResetError.f x2).bind fun t145 => (some (t144 == t145)))) else (some false)) else (if x11 = true then (some false) else ((rule_Error.f x2).bind fun t146 => ((bywashref1_ResetError.f x2).bind fun t147 => (some (t146 == t147))))))))) else (if t137 = true then (some false) else ((rule_Streamed.f k x1).bind fun t148 => (if t148 = true then (if x11 = true then ((rule_Error.f x2).bind fun t149 => ((bywashref1_ResetError.f x2).bind fun t150 => (some (t149 == t150)))) else (some false)) else (if x11 = true then (some false) else ((rule_Error.f x2).bind fun t151 => ((bywashref1_ResetError.f x2).bind fun t152 => (some (t151 == t152)))))))))) else (some false)) else (some false)
end
def bywashlaw9_RuleTells.f (k : Nat) (a0_0 : Int) (a0_1 : Int) (a0_2 : Int) (a0_3 : ByteArray) (a1 : Int) (a2 : Int) : Option (Bool) := if (a0_3.size : Int) > 1000 then (bywashlaw9_RuleTells.j0 k a1 a2 true a0_0 a0_1 a0_2 a0_3) else ((bywashlaw9_alive.f k).bind fun t131 => (bywashlaw9_RuleTells.j0 k a1 a2 (!t131) a0_0 a0_1 a0_2 a0_3))
theorem bywashlaw9_RuleTells.mono_l : ∀ k, (∀ y0 y1 y2 y3 y4 y5 y6, LeO (bywashlaw9_RuleTells.j0 k y0 y1 y2 y3 y4 y5 y6) (bywashlaw9_RuleTells.j0 (k + 1) y0 y1 y2 y3 y4 y5 y6)) ∧ (∀ y0 y1 y2 y3 y4 y5 y6, LeO (bywashlaw9_RuleTells.j1 k y0 y1 y2 y3 y4 y5 y6) (bywashlaw9_RuleTells.j1 (k + 1) y0 y1 y2 y3 y4 y5 y6))
  | 0 => ⟨fun _ _ _ _ _ _ _ r h => by simp [bywashlaw9_RuleTells.j0] at h, fun _ _ _ _ _ _ _ r h => by simp [bywashlaw9_RuleTells.j1] at h⟩
  | k + 1 => by
    obtain ⟨ih0, ih1⟩ := bywashlaw9_RuleTells.mono_l k
    refine ⟨?_, ?_⟩
    · intro y0 y1 y2 y3 y4 y5 y6
      unfold bywashlaw9_RuleTells.j0
      repeat' first
      | (with_reducible exact ih0 _ _ _ _ _ _ _)
      | (with_reducible exact ih1 _ _ _ _ _ _ _)
      | (with_reducible exact bywashlaw9_alive.mono _)
      | (with_reducible exact bywashref1_Check.mono _ _ _ _ _)
      | (with_reducible exact rule_Check.mono _ _ _ _ _)
      | (with_reducible exact rule_Streamed.mono _ _)
      | (with_reducible exact LeO.refl _)
      | (with_reducible exact LeO.none _)
      | (with_reducible refine LeO.ite ?_ ?_)
      | (with_reducible refine LeO.bind ?_ (fun _ => ?_))
      | exact ih0 _ _ _ _ _ _ _
      | exact ih1 _ _ _ _ _ _ _
      | exact bywashlaw9_alive.mono _
      | exact bywashref1_Check.mono _ _ _ _ _
      | exact rule_Check.mono _ _ _ _ _
      | exact rule_Streamed.mono _ _
      | exact LeO.none _
      | refine LeO.ite ?_ ?_
      | refine LeO.bind ?_ (fun _ => ?_)
    · intro y0 y1 y2 y3 y4 y5 y6
      unfold bywashlaw9_RuleTells.j1
      repeat' first
      | (with_reducible exact ih0 _ _ _ _ _ _ _)
      | (with_reducible exact ih1 _ _ _ _ _ _ _)
      | (with_reducible exact bywashlaw9_alive.mono _)
      | (with_reducible exact bywashref1_Check.mono _ _ _ _ _)
      | (with_reducible exact rule_Check.mono _ _ _ _ _)
      | (with_reducible exact rule_Streamed.mono _ _)
      | (with_reducible exact LeO.refl _)
      | (with_reducible exact LeO.none _)
      | (with_reducible refine LeO.ite ?_ ?_)
      | (with_reducible refine LeO.bind ?_ (fun _ => ?_))
      | exact ih0 _ _ _ _ _ _ _
      | exact ih1 _ _ _ _ _ _ _
      | exact bywashlaw9_alive.mono _
      | exact bywashref1_Check.mono _ _ _ _ _
      | exact rule_Check.mono _ _ _ _ _
      | exact rule_Streamed.mono _ _
      | exact LeO.none _
      | refine LeO.ite ?_ ?_
      | refine LeO.bind ?_ (fun _ => ?_)
theorem bywashlaw9_RuleTells.mono : ∀ a0 a1 a2 a3 a4 a5 k, LeO (bywashlaw9_RuleTells.f k a0 a1 a2 a3 a4 a5) (bywashlaw9_RuleTells.f (k + 1) a0 a1 a2 a3 a4 a5) := by
  intro a0 a1 a2 a3 a4 a5 k
  obtain ⟨ih0, ih1⟩ := bywashlaw9_RuleTells.mono_l k
  unfold bywashlaw9_RuleTells.f
  repeat' first
      | (with_reducible exact ih0 _ _ _ _ _ _ _)
      | (with_reducible exact ih1 _ _ _ _ _ _ _)
      | (with_reducible exact bywashlaw9_alive.mono _)
      | (with_reducible exact bywashref1_Check.mono _ _ _ _ _)
      | (with_reducible exact rule_Check.mono _ _ _ _ _)
      | (with_reducible exact rule_Streamed.mono _ _)
      | (with_reducible exact LeO.refl _)
      | (with_reducible exact LeO.none _)
      | (with_reducible refine LeO.ite ?_ ?_)
      | (with_reducible refine LeO.bind ?_ (fun _ => ?_))
      | exact ih0 _ _ _ _ _ _ _
      | exact ih1 _ _ _ _ _ _ _
      | exact bywashlaw9_alive.mono _
      | exact bywashref1_Check.mono _ _ _ _ _
      | exact rule_Check.mono _ _ _ _ _
      | exact rule_Streamed.mono _ _
      | exact LeO.none _
      | refine LeO.ite ?_ ?_
      | refine LeO.bind ?_ (fun _ => ?_)
set_option maxHeartbeats 8000000 in
set_option maxRecDepth 100000 in
theorem bywashlaw9_RuleTells.calls (k : Nat) (a0_0 : Int) (a0_1 : Int) (a0_2 : Int) (a0_3 : ByteArray) (a1 : Int) (a2 : Int) (r : Bool) (w : World) (h : bywashlaw9_RuleTells.f k a0_0 a0_1 a0_2 a0_3 a1 a2 = some r) :
    Calls Try.prog 3 #[.agg #[.int .i64 a0_0, .int .i64 a0_1, .int .i64 a0_2, .string a0_3], .int .i64 a1, .int .i64 a2] w fun e w' => e = .returned (.bool r) ∧ Below w.heap.size w w' := by
  have hu23 := Try.underlying23
  have HB := Aside0.mk (Below.refl w.heap.size w)
  have H : (if (a0_3.size : Int) > 1000 then (bywashlaw9_RuleTells.j0 k a1 a2 true a0_0 a0_1 a0_2 a0_3) else ((bywashlaw9_alive.f k).bind fun t131 => (bywashlaw9_RuleTells.j0 k a1 a2 (!t131) a0_0 a0_1 a0_2 a0_3))) = some r := h
  clear h
  have HC4 := Aside0.mk H
  clear H
  go_enter Try.func3, Try.ntmps3
  go_upto_region 1 with (first | ((with_reducible refine gate_dst (N := 3) rfl ?_); refine box_event ?hg (N := 3) ?hd (cs := #[.int .i64 a0_0, .int .i64 a0_1, .int .i64 a0_2, .string a0_3]) (t := 23) ?hr ?_; (case hd => rfl); (case hg => rfl); (case hr => first | (go_simp; done) | (go_simp; rfl)); intro gb130 hg w5 hbox hb; have n0_ := Aside0.mk (below_step (by repeat (first | (with_reducible first | exact HB.out | apply below_alloc | apply pw_below_drewN | apply below_drew1) | exact HB.out)) hb); have n1_ := Aside0.mk (hbox); have n2_ := Aside0.mk ((by rw [hg]; exact (below_size (by repeat (first | (with_reducible first | exact HB.out | apply below_alloc | apply pw_below_drewN | apply below_drew1) | exact HB.out))) : w.heap.size ≤ gb130)); have n3_ := Aside0.mk ((by rw [hg]; exact (below_size (by repeat (first | (with_reducible first | exact HB.out | apply below_alloc | apply pw_below_drewN | apply below_drew1) | exact HB.out))) : w.heap.size ≤ gb130)); clear HB; have HB := n0_; have BK130 := n1_; have GW130 := n2_; have GE130 := n3_; clear n0_ n1_ n2_ n3_; clear hb hbox hg))
  (try simp only [Act.put, List.setIfInBounds_toArray, List.set_cons_zero, List.set_cons_succ])
  go_cut [19] (fun v19 wc => ∃ (kq : Nat) (x19_3 : Bool), v19 = .bool x19_3 ∧ Aside0 (bywashlaw9_RuleTells.j0 kq a1 a2 x19_3 a0_0 a0_1 a0_2 a0_3 = some r) ∧ Aside0 (kq ≤ k) ∧ Aside0 (wc.heap[gb130]? = some (.cells #[.int .i64 a0_0, .int .i64 a0_1, .int .i64 a0_2, .string a0_3] 23 (0, 0))) ∧ Aside0 (Below w.heap.size w wc))
  case first =>
    have H := HC4.out
    clear HC4
    by_cases c6 : (a0_3.size : Int) > 1000
    · rw [if_pos c6] at H
      have c6b0 : decide (1000 < (a0_3.size : Int)) = true := decide_eq_true c6
      have c6b1 : decide (1000 < a0_3.size) = true := decide_eq_true (by omega)
      clear c6
      (first | rw [c6b0] | (simp only [i64_w, i32_w]; rw [c6b0]) | skip)
      have H' := Aside0.mk H
      clear H
      have hcz7_0 : w5.cell? ⟨gb130, 0, none⟩ = some (.int .i64 a0_0) := (blk_cell BK130.out 0).trans rfl
      have hcz7_1 : w5.cell? ⟨gb130, 1, none⟩ = some (.int .i64 a0_1) := (blk_cell BK130.out 1).trans rfl
      have hcz7_2 : w5.cell? ⟨gb130, 2, none⟩ = some (.int .i64 a0_2) := (blk_cell BK130.out 2).trans rfl
      have hcz7_3 : w5.cell? ⟨gb130, 3, none⟩ = some (.string a0_3) := (blk_cell BK130.out 3).trans rfl
      have hfz7_0 := blk_frozen BK130.out 0
      have hfz7_1 := blk_frozen BK130.out 1
      have hfz7_2 := blk_frozen BK130.out 2
      have hfz7_3 := blk_frozen BK130.out 3
      go_wp2
      go_meet
      case rel => exact ⟨_, (true), (by first | rfl | (simp; done) | (simp [*]; done)), H', ⟨by first | omega | exact Nat.le_refl _⟩, ⟨by (with_reducible repeat (first | refine blk_drewN ?_ _ | refine blk_drew ?_ | refine blk_alloc ?_ _)); exact BK130.out⟩, ⟨by repeat (first | (with_reducible first | exact HB.out | apply below_alloc | apply pw_below_drewN | apply below_drew1 | refine below_set ?_ GE130.out) | exact HB.out)⟩⟩
    · rw [if_neg c6] at H
      have c6b0 : decide (1000 < (a0_3.size : Int)) = false := decide_eq_false c6
      have c6b1 : decide (1000 < a0_3.size) = false := decide_eq_false (by omega)
      clear c6
      (first | rw [c6b0] | (simp only [i64_w, i32_w]; rw [c6b0]) | skip)
      replace H := Option.bind_eq_some_iff.mp H
      obtain ⟨t131, A80, H⟩ := H
      replace H : (bywashlaw9_RuleTells.j0 k a1 a2 (!t131) a0_0 a0_1 a0_2 a0_3) = some r := H
      have A8 := Aside0.mk A80
      clear A80
      have H' := Aside0.mk H
      clear H
      have hcz9_0 : w5.cell? ⟨gb130, 0, none⟩ = some (.int .i64 a0_0) := (blk_cell BK130.out 0).trans rfl
      have hcz9_1 : w5.cell? ⟨gb130, 1, none⟩ = some (.int .i64 a0_1) := (blk_cell BK130.out 1).trans rfl
      have hcz9_2 : w5.cell? ⟨gb130, 2, none⟩ = some (.int .i64 a0_2) := (blk_cell BK130.out 2).trans rfl
      have hcz9_3 : w5.cell? ⟨gb130, 3, none⟩ = some (.string a0_3) := (blk_cell BK130.out 3).trans rfl
      have hfz9_0 := blk_frozen BK130.out 0
      have hfz9_1 := blk_frozen BK130.out 1
      have hfz9_2 := blk_frozen BK130.out 2
      have hfz9_3 := blk_frozen BK130.out 3
      go_wp2_with (first | (go_at_call 9; (with_reducible refine (bywashlaw9_alive.calls k  t131 _ A8.out).mono ?_); rintro e w10 ⟨rfl, hb⟩; have n0_ := Aside0.mk (blk_below (g := gb130) (o := .cells #[.int .i64 a0_0, .int .i64 a0_1, .int .i64 a0_2, .string a0_3] 23 (0, 0)) (by (with_reducible repeat (first | refine blk_drewN ?_ _ | refine blk_drew ?_ | refine blk_alloc ?_ _)); exact BK130.out) hb); have n1_ := Aside0.mk (below_step (by repeat (first | (with_reducible first | exact HB.out | apply below_alloc | apply pw_below_drewN | apply below_drew1 | refine below_set ?_ GE130.out) | exact HB.out)) hb); clear BK130; clear HB; have BK130 := n0_; have HB := n1_; clear n0_ n1_; (try clear hb); (try clear hb2); (try clear hk); (try clear hi)))
      go_meet
      case rel => exact ⟨_, (!t131), (by first | rfl | (simp; done) | (simp [*]; done)), H', ⟨by first | omega | exact Nat.le_refl _⟩, ⟨by (with_reducible repeat (first | refine blk_drewN ?_ _ | refine blk_drew ?_ | refine blk_alloc ?_ _)); exact BK130.out⟩, ⟨by repeat (first | (with_reducible first | exact HB.out | apply below_alloc | apply pw_below_drewN | apply below_drew1 | refine below_set ?_ GE130.out) | exact HB.out)⟩⟩
  case rest =>
    clear HC4
    try clear p2
    try clear c3
    try clear c6
    try clear c6b0
    try clear c6b1
    try clear hcz7_0
    try clear hcz7_1
    try clear hcz7_2
    try clear hcz7_3
    try clear hcz9_0
    try clear hcz9_1
    try clear hcz9_2
    try clear hcz9_3
    try clear hfz7_0
    try clear hfz7_1
    try clear hfz7_2
    try clear hfz7_3
    try clear hfz9_0
    try clear hfz9_1
    try clear hfz9_2
    try clear hfz9_3
    obtain ⟨kq, x19_3, rfl, HA, HJ3, BK130, HB⟩ := hcut
    cases kq with
    | zero => exact absurd HA.out (by simp [bywashlaw9_RuleTells.j0])
    | succ kj3 =>
      have H := HA.out
      clear HA
      simp only [bywashlaw9_RuleTells.j0] at H
      by_cases c11 : x19_3 = true
      · subst c11
        have H1 : ((bywashlaw9_alive.f kj3).bind fun t132 => (some t132)) = some r := by rw [if_pos rfl] at H; exact H
        clear H
        have H := H1
        clear H1
        replace H := Option.bind_eq_some_iff.mp H
        obtain ⟨t132, A120, H⟩ := H
        replace H : (some t132) = some r := H
        have A12 := Aside0.mk A120
        clear A120
        obtain rfl := Option.some.inj H
        go_wp2_with (first | ((with_reducible refine gate_callee (f := 9) rfl ?_); refine goesL_ (some 20) rfl rfl Try.func9 (by kernel_rfl) rfl #[] rfl (by (try simp only [List.map_toArray, List.map_cons, List.map_nil]); first | done | rfl | (simp only [List.length_drop, List.length_take]; rfl)) ?_; (with_reducible refine (bywashlaw9_alive.calls kj3  t132 _ A12.out).mono ?_); rintro e w13 ⟨rfl, hb⟩; refine ⟨_, rfl, ?_⟩; have n0_ := Aside0.mk (blk_below (g := gb130) (o := .cells #[.int .i64 a0_0, .int .i64 a0_1, .int .i64 a0_2, .string a0_3] 23 (0, 0)) (by (with_reducible repeat (first | refine blk_drewN ?_ _ | refine blk_drew ?_ | refine blk_alloc ?_ _)); exact BK130.out) hb); have n1_ := Aside0.mk (below_step (by repeat (first | (with_reducible first | exact HB.out | apply below_alloc | apply pw_below_drewN | apply below_drew1 | refine below_set ?_ GE130.out) | exact HB.out)) hb); clear BK130; clear HB; have BK130 := n0_; have HB := n1_; clear n0_ n1_; (try clear hb); (try clear hb2); (try clear hk); (try clear hi)))
        go_ret
        exact ⟨by first | rfl | (simp [errW_none, errW_some] <;> rfl) | (simp [*, errW_none, errW_some] <;> rfl), by repeat (first | (with_reducible first | exact HB.out | apply below_alloc | apply pw_below_drewN | apply below_drew1 | refine below_set ?_ GE130.out) | exact HB.out)⟩
      · replace c11 := Bool.eq_false_iff.mpr c11
        subst c11
        have H1 : ((rule_Check.f kj3 a0_0 a0_1 a0_2 a0_3).bind fun bt133 => ((bywashref1_Check.f kj3 a0_0 a0_1 a0_2 a0_3).bind fun bt135 => (if a1 = 0 then (bywashlaw9_RuleTells.j1 kj3 a1 a2 bt133.1 bt133.2 bt135.1 bt135.2 true) else (if a1 = 1 then (bywashlaw9_RuleTells.j1 kj3 a1 a2 bt133.1 bt133.2 bt135.1 bt135.2 true) else (if a1 = 2 then (bywashlaw9_RuleTells.j1 kj3 a1 a2 bt133.1 bt133.2 bt135.1 bt135.2 true) else (if a1 = 3 then (bywashlaw9_RuleTells.j1 kj3 a1 a2 bt133.1 bt133.2 bt135.1 bt135.2 true) else (bywashlaw9_RuleTells.j1 kj3 a1 a2 bt133.1 bt133.2 bt135.1 bt135.2 (a1 == 9)))))))) = some r := by rw [if_neg (show ¬ (false = true) by decide)] at H; exact H
        clear H
        have H := H1
        clear H1
        replace H := Option.bind_eq_some_iff.mp H
        obtain ⟨⟨t133, t134⟩, A140, H⟩ := H
        replace H : ((bywashref1_Check.f kj3 a0_0 a0_1 a0_2 a0_3).bind fun bt135 => (if a1 = 0 then (bywashlaw9_RuleTells.j1 kj3 a1 a2 t133 t134 bt135.1 bt135.2 true) else (if a1 = 1 then (bywashlaw9_RuleTells.j1 kj3 a1 a2 t133 t134 bt135.1 bt135.2 true) else (if a1 = 2 then (bywashlaw9_RuleTells.j1 kj3 a1 a2 t133 t134 bt135.1 bt135.2 true) else (if a1 = 3 then (bywashlaw9_RuleTells.j1 kj3 a1 a2 t133 t134 bt135.1 bt135.2 true) else (bywashlaw9_RuleTells.j1 kj3 a1 a2 t133 t134 bt135.1 bt135.2 (a1 == 9))))))) = some r := H
        have A14 := Aside0.mk A140
        clear A140
        replace H := Option.bind_eq_some_iff.mp H
        obtain ⟨⟨t135, t136⟩, A150, H⟩ := H
        replace H : (if a1 = 0 then (bywashlaw9_RuleTells.j1 kj3 a1 a2 t133 t134 t135 t136 true) else (if a1 = 1 then (bywashlaw9_RuleTells.j1 kj3 a1 a2 t133 t134 t135 t136 true) else (if a1 = 2 then (bywashlaw9_RuleTells.j1 kj3 a1 a2 t133 t134 t135 t136 true) else (if a1 = 3 then (bywashlaw9_RuleTells.j1 kj3 a1 a2 t133 t134 t135 t136 true) else (bywashlaw9_RuleTells.j1 kj3 a1 a2 t133 t134 t135 t136 (a1 == 9)))))) = some r := H
        have A15 := Aside0.mk A150
        clear A150
        have HC16 := Aside0.mk H
        clear H
        have hcz17_0 : wc.cell? ⟨gb130, 0, none⟩ = some (.int .i64 a0_0) := (blk_cell BK130.out 0).trans rfl
        have hcz17_1 : wc.cell? ⟨gb130, 1, none⟩ = some (.int .i64 a0_1) := (blk_cell BK130.out 1).trans rfl
        have hcz17_2 : wc.cell? ⟨gb130, 2, none⟩ = some (.int .i64 a0_2) := (blk_cell BK130.out 2).trans rfl
        have hcz17_3 : wc.cell? ⟨gb130, 3, none⟩ = some (.string a0_3) := (blk_cell BK130.out 3).trans rfl
        have hfz17_0 := blk_frozen BK130.out 0
        have hfz17_1 := blk_frozen BK130.out 1
        have hfz17_2 := blk_frozen BK130.out 2
        have hfz17_3 := blk_frozen BK130.out 3
        go_upto_region 5 with (first | ((with_reducible refine gate_callee (f := 10) rfl ?_); refine goesL_ (some 23) rfl rfl Try.func10 (by kernel_rfl) rfl #[.agg #[.int .i64 a0_0, .int .i64 a0_1, .int .i64 a0_2, .string a0_3]] rfl (by (try simp only [List.map_toArray, List.map_cons, List.map_nil]); first | done | rfl | (simp only [List.length_drop, List.length_take]; rfl)) ?_; (with_reducible refine (rule_Check.calls kj3 a0_0 a0_1 a0_2 a0_3 t133 t134 _ A14.out).mono ?_); rintro e w18 ⟨rfl, hb⟩; refine ⟨_, rfl, ?_⟩; have n0_ := Aside0.mk (blk_below (g := gb130) (o := .cells #[.int .i64 a0_0, .int .i64 a0_1, .int .i64 a0_2, .string a0_3] 23 (0, 0)) (by (with_reducible repeat (first | refine blk_drewN ?_ _ | refine blk_drew ?_ | refine blk_alloc ?_ _)); exact BK130.out) hb); have n1_ := Aside0.mk (below_step (by repeat (first | (with_reducible first | exact HB.out | apply below_alloc | apply pw_below_drewN | apply below_drew1 | refine below_set ?_ GE130.out) | exact HB.out)) hb); clear BK130; clear HB; have BK130 := n0_; have HB := n1_; clear n0_ n1_; (try clear hb); (try clear hb2); (try clear hk); (try clear hi); have hcz19_0 : w18.cell? ⟨gb130, 0, none⟩ = some (.int .i64 a0_0) := (blk_cell BK130.out 0).trans rfl; have hcz19_1 : w18.cell? ⟨gb130, 1, none⟩ = some (.int .i64 a0_1) := (blk_cell BK130.out 1).trans rfl; have hcz19_2 : w18.cell? ⟨gb130, 2, none⟩ = some (.int .i64 a0_2) := (blk_cell BK130.out 2).trans rfl; have hcz19_3 : w18.cell? ⟨gb130, 3, none⟩ = some (.string a0_3) := (blk_cell BK130.out 3).trans rfl; have hfz19_0 := blk_frozen BK130.out 0; have hfz19_1 := blk_frozen BK130.out 1; have hfz19_2 := blk_frozen BK130.out 2; have hfz19_3 := blk_frozen BK130.out 3) | ((with_reducible refine gate_callee (f := 11) rfl ?_); refine goesL_ (some 28) rfl rfl Try.func11 (by kernel_rfl) rfl #[.agg #[.int .i64 a0_0, .int .i64 a0_1, .int .i64 a0_2, .string a0_3]] rfl (by (try simp only [List.map_toArray, List.map_cons, List.map_nil]); first | done | rfl | (simp only [List.length_drop, List.length_take]; rfl)) ?_; (with_reducible refine (bywashref1_Check.calls kj3 a0_0 a0_1 a0_2 a0_3 t135 t136 _ A15.out).mono ?_); rintro e w20 ⟨rfl, hb⟩; refine ⟨_, rfl, ?_⟩; have n0_ := Aside0.mk (blk_below (g := gb130) (o := .cells #[.int .i64 a0_0, .int .i64 a0_1, .int .i64 a0_2, .string a0_3] 23 (0, 0)) (by (with_reducible repeat (first | refine blk_drewN ?_ _ | refine blk_drew ?_ | refine blk_alloc ?_ _)); exact BK130.out) hb); have n1_ := Aside0.mk (below_step (by repeat (first | (with_reducible first | exact HB.out | apply below_alloc | apply pw_below_drewN | apply below_drew1 | refine below_set ?_ GE130.out) | exact HB.out)) hb); clear BK130; clear HB; have BK130 := n0_; have HB := n1_; clear n0_ n1_; (try clear hb); (try clear hb2); (try clear hk); (try clear hi)))
        (try simp only [Act.put, List.setIfInBounds_toArray, List.set_cons_zero, List.set_cons_succ])
        go_cut [11] (fun v11 wc => ∃ (kq : Nat) (x11_15 : Bool), v11 = .bool x11_15 ∧ Aside0 (bywashlaw9_RuleTells.j1 kq a1 a2 t133 t134 t135 t136 x11_15 = some r) ∧ Aside0 (kq ≤ kj3) ∧ Aside0 (wc.heap[gb130]? = some (.cells #[.int .i64 a0_0, .int .i64 a0_1, .int .i64 a0_2, .string a0_3] 23 (0, 0))) ∧ Aside0 (Below w.heap.size w wc))
        case first =>
          have H := HC16.out
          clear HC16
          by_cases c21 : a1 = 0
          · rw [if_pos c21] at H
            have c21b0 : (a1 == 0) = true := beq_iff_eq.mpr c21
            have c21b1 : (a1 != 0) = false := bne_eq_false_iff_eq.mpr c21
            clear c21
            (first | rw [c21b0] | (simp only [i64_w, i32_w]; rw [c21b0]) | skip)
            have H' := Aside0.mk H
            clear H
            go_wp2
            go_meet
            case rel => exact ⟨_, (true), (by first | rfl | (simp; done) | (simp [*]; done)), H', ⟨by have := HJ3.out; first | omega | exact Nat.le_refl _⟩, ⟨by (with_reducible repeat (first | refine blk_drewN ?_ _ | refine blk_drew ?_ | refine blk_alloc ?_ _)); exact BK130.out⟩, ⟨by repeat (first | (with_reducible first | exact HB.out | apply below_alloc | apply pw_below_drewN | apply below_drew1 | refine below_set ?_ GE130.out) | exact HB.out)⟩⟩
          · rw [if_neg c21] at H
            have c21b0 : (a1 == 0) = false := beq_eq_false_iff_ne.mpr c21
            have c21b1 : (a1 != 0) = true := bne_iff_ne.mpr c21
            (first | rw [c21b0] | (simp only [i64_w, i32_w]; rw [c21b0]) | skip)
            by_cases c22 : a1 = 1
            · rw [if_pos c22] at H
              have c22b0 : (a1 == 1) = true := beq_iff_eq.mpr c22
              have c22b1 : (a1 != 1) = false := bne_eq_false_iff_eq.mpr c22
              clear c22
              have H' := Aside0.mk H
              clear H
              go_wp2
              go_meet
              case rel => exact ⟨_, (true), (by first | rfl | (simp; done) | (simp [*]; done)), H', ⟨by have := HJ3.out; first | omega | exact Nat.le_refl _⟩, ⟨by (with_reducible repeat (first | refine blk_drewN ?_ _ | refine blk_drew ?_ | refine blk_alloc ?_ _)); exact BK130.out⟩, ⟨by repeat (first | (with_reducible first | exact HB.out | apply below_alloc | apply pw_below_drewN | apply below_drew1 | refine below_set ?_ GE130.out) | exact HB.out)⟩⟩
            · rw [if_neg c22] at H
              have c22b0 : (a1 == 1) = false := beq_eq_false_iff_ne.mpr c22
              have c22b1 : (a1 != 1) = true := bne_iff_ne.mpr c22
              by_cases c23 : a1 = 2
              · rw [if_pos c23] at H
                have c23b0 : (a1 == 2) = true := beq_iff_eq.mpr c23
                have c23b1 : (a1 != 2) = false := bne_eq_false_iff_eq.mpr c23
                clear c23
                have H' := Aside0.mk H
                clear H
                go_wp2
                go_meet
                case rel => exact ⟨_, (true), (by first | rfl | (simp; done) | (simp [*]; done)), H', ⟨by have := HJ3.out; first | omega | exact Nat.le_refl _⟩, ⟨by (with_reducible repeat (first | refine blk_drewN ?_ _ | refine blk_drew ?_ | refine blk_alloc ?_ _)); exact BK130.out⟩, ⟨by repeat (first | (with_reducible first | exact HB.out | apply below_alloc | apply pw_below_drewN | apply below_drew1 | refine below_set ?_ GE130.out) | exact HB.out)⟩⟩
              · rw [if_neg c23] at H
                have c23b0 : (a1 == 2) = false := beq_eq_false_iff_ne.mpr c23
                have c23b1 : (a1 != 2) = true := bne_iff_ne.mpr c23
                by_cases c24 : a1 = 3
                · rw [if_pos c24] at H
                  have c24b0 : (a1 == 3) = true := beq_iff_eq.mpr c24
                  have c24b1 : (a1 != 3) = false := bne_eq_false_iff_eq.mpr c24
                  clear c24
                  have H' := Aside0.mk H
                  clear H
                  go_wp2
                  go_meet
                  case rel => exact ⟨_, (true), (by first | rfl | (simp; done) | (simp [*]; done)), H', ⟨by have := HJ3.out; first | omega | exact Nat.le_refl _⟩, ⟨by (with_reducible repeat (first | refine blk_drewN ?_ _ | refine blk_drew ?_ | refine blk_alloc ?_ _)); exact BK130.out⟩, ⟨by repeat (first | (with_reducible first | exact HB.out | apply below_alloc | apply pw_below_drewN | apply below_drew1 | refine below_set ?_ GE130.out) | exact HB.out)⟩⟩
                · rw [if_neg c24] at H
                  have c24b0 : (a1 == 3) = false := beq_eq_false_iff_ne.mpr c24
                  have c24b1 : (a1 != 3) = true := bne_iff_ne.mpr c24
                  have H' := Aside0.mk H
                  clear H
                  go_wp2
                  go_meet
                  case rel => exact ⟨_, ((a1 == 9)), (by first | rfl | (simp; done) | (simp [*]; done)), H', ⟨by have := HJ3.out; first | omega | exact Nat.le_refl _⟩, ⟨by (with_reducible repeat (first | refine blk_drewN ?_ _ | refine blk_drew ?_ | refine blk_alloc ?_ _)); exact BK130.out⟩, ⟨by repeat (first | (with_reducible first | exact HB.out | apply below_alloc | apply pw_below_drewN | apply below_drew1 | refine below_set ?_ GE130.out) | exact HB.out)⟩⟩
        case rest =>
          clear HC16
          try clear c1
          try clear c2
          try clear p2
          try clear c3
          try clear c6
          try clear c6b0
          try clear c6b1
          try clear c9
          try clear c10
          try clear c11
          try clear c21
          try clear c21b0
          try clear c21b1
          try clear c22
          try clear c22b0
          try clear c22b1
          try clear c23
          try clear c23b0
          try clear c23b1
          try clear c24
          try clear c24b0
          try clear c24b1
          try clear hcz17_0
          try clear hcz17_1
          try clear hcz17_2
          try clear hcz17_3
          try clear hcz19_0
          try clear hcz19_1
          try clear hcz19_2
          try clear hcz19_3
          try clear hcz7_0
          try clear hcz7_1
          try clear hcz7_2
          try clear hcz7_3
          try clear hcz9_0
          try clear hcz9_1
          try clear hcz9_2
          try clear hcz9_3
          try clear hfz17_0
          try clear hfz17_1
          try clear hfz17_2
          try clear hfz17_3
          try clear hfz19_0
          try clear hfz19_1
          try clear hfz19_2
          try clear hfz19_3
          try clear hfz7_0
          try clear hfz7_1
          try clear hfz7_2
          try clear hfz7_3
          try clear hfz9_0
          try clear hfz9_1
          try clear hfz9_2
          try clear hfz9_3
          try clear p2
          obtain ⟨kq, x11_15, rfl, HA, HJ15, BK130, HB⟩ := hcut
          cases kq with
          | zero => exact absurd HA.out (by simp [bywashlaw9_RuleTells.j1])
          | succ kj15 =>
            have H := HA.out
            clear HA
            simp only [bywashlaw9_RuleTells.j1] at H
            by_cases c25 : t133 = t135
            · rw [if_pos c25] at H
              have c25b0 : (t133 == t135) = true := beq_iff_eq.mpr c25
              have c25b1 : (t133 != t135) = false := bne_eq_false_iff_eq.mpr c25
              clear c25
              by_cases c26 : t134 = t136
              · rw [if_pos c26] at H
                have c26b0 : (t134 == t136) = true := beq_iff_eq.mpr c26
                have c26b1 : (t134 != t136) = false := bne_eq_false_iff_eq.mpr c26
                clear c26
                replace H := Option.bind_eq_some_iff.mp H
                obtain ⟨t137, A270, H⟩ := H
                replace H : (if a1 ≥ 0 then (if t137 = true then (if a1 ≤ 9 then ((rule_Streamed.f kj15 a1).bind fun t138 => (if t138 = true then (if x11_15 = true then ((rule_Error.f a2).bind fun t139 => ((bywashref1_ResetError.f a2).bind fun t140 => (some (t139 == t140)))) else (some false)) else (if x11_15 = true then (some false) else ((rule_Error.f a2).bind fun t141 => ((bywashref1_ResetError.f a2).bind fun t142 => (some (t141 == t142))))))) else (some false)) else (if a1 ≤ 9 then (some false) else ((rule_Streamed.f kj15 a1).bind fun t143 => (if t143 = true then (if x11_15 = true then ((rule_Error.f a2).bind fun t144 => ((bywashref1_ResetError.f a2).bind fun t145 => (some (t144 == t145)))) else (some false)) else (if x11_15 = true then (some false) else ((rule_Error.f a2).bind fun t146 => ((bywashref1_ResetError.f a2).bind fun t147 => (some (t146 == t147))))))))) else (if t137 = true then (some false) else ((rule_Streamed.f kj15 a1).bind fun t148 => (if t148 = true then (if x11_15 = true then ((rule_Error.f a2).bind fun t149 => ((bywashref1_ResetError.f a2).bind fun t150 => (some (t149 == t150)))) else (some false)) else (if x11_15 = true then (some false) else ((rule_Error.f a2).bind fun t151 => ((bywashref1_ResetError.f a2).bind fun t152 => (some (t151 == t152))))))))) = some r := H
                have A27 := Aside0.mk A270
                clear A270
                by_cases c28 : a1 ≥ 0
                · rw [if_pos c28] at H
                  have c28b0 : decide (0 ≤ a1) = true := decide_eq_true c28
                  clear c28
                  by_cases c29 : t137 = true
                  · subst c29
                    have H1 : (if a1 ≤ 9 then ((rule_Streamed.f kj15 a1).bind fun t138 => (if t138 = true then (if x11_15 = true then ((rule_Error.f a2).bind fun t139 => ((bywashref1_ResetError.f a2).bind fun t140 => (some (t139 == t140)))) else (some false)) else (if x11_15 = true then (some false) else ((rule_Error.f a2).bind fun t141 => ((bywashref1_ResetError.f a2).bind fun t142 => (some (t141 == t142))))))) else (some false)) = some r := by rw [if_pos rfl] at H; exact H
                    clear H
                    have H := H1
                    clear H1
                    by_cases c30 : a1 ≤ 9
                    · rw [if_pos c30] at H
                      have c30b0 : decide (a1 ≤ 9) = true := decide_eq_true c30
                      clear c30
                      replace H := Option.bind_eq_some_iff.mp H
                      obtain ⟨t138, A310, H⟩ := H
                      replace H : (if t138 = true then (if x11_15 = true then ((rule_Error.f a2).bind fun t139 => ((bywashref1_ResetError.f a2).bind fun t140 => (some (t139 == t140)))) else (some false)) else (if x11_15 = true then (some false) else ((rule_Error.f a2).bind fun t141 => ((bywashref1_ResetError.f a2).bind fun t142 => (some (t141 == t142)))))) = some r := H
                      have A31 := Aside0.mk A310
                      clear A310
                      by_cases c32 : t138 = true
                      · subst c32
                        have H1 : (if x11_15 = true then ((rule_Error.f a2).bind fun t139 => ((bywashref1_ResetError.f a2).bind fun t140 => (some (t139 == t140)))) else (some false)) = some r := by rw [if_pos rfl] at H; exact H
                        clear H
                        have H := H1
                        clear H1
                        by_cases c33 : x11_15 = true
                        · subst c33
                          have H1 : ((rule_Error.f a2).bind fun t139 => ((bywashref1_ResetError.f a2).bind fun t140 => (some (t139 == t140)))) = some r := by rw [if_pos rfl] at H; exact H
                          clear H
                          have H := H1
                          clear H1
                          replace H := Option.bind_eq_some_iff.mp H
                          obtain ⟨t139, A340, H⟩ := H
                          replace H : ((bywashref1_ResetError.f a2).bind fun t140 => (some (t139 == t140))) = some r := H
                          have A34 := Aside0.mk A340
                          clear A340
                          replace H := Option.bind_eq_some_iff.mp H
                          obtain ⟨t140, A350, H⟩ := H
                          replace H : (some (t139 == t140)) = some r := H
                          have A35 := Aside0.mk A350
                          clear A350
                          obtain rfl := Option.some.inj H
                          go_wp2_with (first | (go_at_call 12; (with_reducible refine (rule_Known.calls a1 true _ A27.out).mono ?_); rintro e w' ⟨rfl, ⟨nd, rfl⟩⟩) | (go_at_call 13; (with_reducible refine (rule_Streamed.calls kj15 a1 true _ A31.out).mono ?_); rintro e w' ⟨rfl, ⟨nd, rfl⟩⟩) | (go_at_call 14; (with_reducible refine (rule_Error.calls a2 t139 _ A34.out).mono ?_); rintro e w' ⟨rfl, ⟨nd, rfl⟩⟩) | (go_at_call 15; (with_reducible refine (bywashref1_ResetError.calls a2 t140 _ A35.out).mono ?_); rintro e w' ⟨rfl, ⟨nd, rfl⟩⟩))
                          go_ret
                          exact ⟨by first | rfl | (simp [errW_none, errW_some] <;> rfl) | (simp [*, errW_none, errW_some] <;> rfl), by repeat (first | (with_reducible first | exact HB.out | apply below_alloc | apply pw_below_drewN | apply below_drew1 | refine below_set ?_ GE130.out) | exact HB.out)⟩
                        · replace c33 := Bool.eq_false_iff.mpr c33
                          subst c33
                          have H1 : (some false) = some r := by rw [if_neg (show ¬ (false = true) by decide)] at H; exact H
                          clear H
                          have H := H1
                          clear H1
                          obtain rfl := Option.some.inj H
                          go_wp2_with (first | (go_at_call 12; (with_reducible refine (rule_Known.calls a1 true _ A27.out).mono ?_); rintro e w' ⟨rfl, ⟨nd, rfl⟩⟩) | (go_at_call 13; (with_reducible refine (rule_Streamed.calls kj15 a1 true _ A31.out).mono ?_); rintro e w' ⟨rfl, ⟨nd, rfl⟩⟩))
                          go_ret
                          exact ⟨by first | rfl | (simp [errW_none, errW_some] <;> rfl) | (simp [*, errW_none, errW_some] <;> rfl), by repeat (first | (with_reducible first | exact HB.out | apply below_alloc | apply pw_below_drewN | apply below_drew1 | refine below_set ?_ GE130.out) | exact HB.out)⟩
                      · replace c32 := Bool.eq_false_iff.mpr c32
                        subst c32
                        have H1 : (if x11_15 = true then (some false) else ((rule_Error.f a2).bind fun t141 => ((bywashref1_ResetError.f a2).bind fun t142 => (some (t141 == t142))))) = some r := by rw [if_neg (show ¬ (false = true) by decide)] at H; exact H
                        clear H
                        have H := H1
                        clear H1
                        by_cases c36 : x11_15 = true
                        · subst c36
                          have H1 : (some false) = some r := by rw [if_pos rfl] at H; exact H
                          clear H
                          have H := H1
                          clear H1
                          obtain rfl := Option.some.inj H
                          go_wp2_with (first | (go_at_call 12; (with_reducible refine (rule_Known.calls a1 true _ A27.out).mono ?_); rintro e w' ⟨rfl, ⟨nd, rfl⟩⟩) | (go_at_call 13; (with_reducible refine (rule_Streamed.calls kj15 a1 false _ A31.out).mono ?_); rintro e w' ⟨rfl, ⟨nd, rfl⟩⟩))
                          go_ret
                          exact ⟨by first | rfl | (simp [errW_none, errW_some] <;> rfl) | (simp [*, errW_none, errW_some] <;> rfl), by repeat (first | (with_reducible first | exact HB.out | apply below_alloc | apply pw_below_drewN | apply below_drew1 | refine below_set ?_ GE130.out) | exact HB.out)⟩
                        · replace c36 := Bool.eq_false_iff.mpr c36
                          subst c36
                          have H1 : ((rule_Error.f a2).bind fun t141 => ((bywashref1_ResetError.f a2).bind fun t142 => (some (t141 == t142)))) = some r := by rw [if_neg (show ¬ (false = true) by decide)] at H; exact H
                          clear H
                          have H := H1
                          clear H1
                          replace H := Option.bind_eq_some_iff.mp H
                          obtain ⟨t141, A370, H⟩ := H
                          replace H : ((bywashref1_ResetError.f a2).bind fun t142 => (some (t141 == t142))) = some r := H
                          have A37 := Aside0.mk A370
                          clear A370
                          replace H := Option.bind_eq_some_iff.mp H
                          obtain ⟨t142, A380, H⟩ := H
                          replace H : (some (t141 == t142)) = some r := H
                          have A38 := Aside0.mk A380
                          clear A380
                          obtain rfl := Option.some.inj H
                          go_wp2_with (first | (go_at_call 12; (with_reducible refine (rule_Known.calls a1 true _ A27.out).mono ?_); rintro e w' ⟨rfl, ⟨nd, rfl⟩⟩) | (go_at_call 13; (with_reducible refine (rule_Streamed.calls kj15 a1 false _ A31.out).mono ?_); rintro e w' ⟨rfl, ⟨nd, rfl⟩⟩) | (go_at_call 14; (with_reducible refine (rule_Error.calls a2 t141 _ A37.out).mono ?_); rintro e w' ⟨rfl, ⟨nd, rfl⟩⟩) | (go_at_call 15; (with_reducible refine (bywashref1_ResetError.calls a2 t142 _ A38.out).mono ?_); rintro e w' ⟨rfl, ⟨nd, rfl⟩⟩))
                          go_ret
                          exact ⟨by first | rfl | (simp [errW_none, errW_some] <;> rfl) | (simp [*, errW_none, errW_some] <;> rfl), by repeat (first | (with_reducible first | exact HB.out | apply below_alloc | apply pw_below_drewN | apply below_drew1 | refine below_set ?_ GE130.out) | exact HB.out)⟩
                    · rw [if_neg c30] at H
                      have c30b0 : decide (a1 ≤ 9) = false := decide_eq_false c30
                      clear c30
                      obtain rfl := Option.some.inj H
                      go_wp2_with (first | (go_at_call 12; (with_reducible refine (rule_Known.calls a1 true _ A27.out).mono ?_); rintro e w' ⟨rfl, ⟨nd, rfl⟩⟩))
                      go_ret
                      exact ⟨by first | rfl | (simp [errW_none, errW_some] <;> rfl) | (simp [*, errW_none, errW_some] <;> rfl), by repeat (first | (with_reducible first | exact HB.out | apply below_alloc | apply pw_below_drewN | apply below_drew1 | refine below_set ?_ GE130.out) | exact HB.out)⟩
                  · replace c29 := Bool.eq_false_iff.mpr c29
                    subst c29
                    have H1 : (if a1 ≤ 9 then (some false) else ((rule_Streamed.f kj15 a1).bind fun t143 => (if t143 = true then (if x11_15 = true then ((rule_Error.f a2).bind fun t144 => ((bywashref1_ResetError.f a2).bind fun t145 => (some (t144 == t145)))) else (some false)) else (if x11_15 = true then (some false) else ((rule_Error.f a2).bind fun t146 => ((bywashref1_ResetError.f a2).bind fun t147 => (some (t146 == t147)))))))) = some r := by rw [if_neg (show ¬ (false = true) by decide)] at H; exact H
                    clear H
                    have H := H1
                    clear H1
                    by_cases c39 : a1 ≤ 9
                    · rw [if_pos c39] at H
                      have c39b0 : decide (a1 ≤ 9) = true := decide_eq_true c39
                      clear c39
                      obtain rfl := Option.some.inj H
                      go_wp2_with (first | (go_at_call 12; (with_reducible refine (rule_Known.calls a1 false _ A27.out).mono ?_); rintro e w' ⟨rfl, ⟨nd, rfl⟩⟩))
                      go_ret
                      exact ⟨by first | rfl | (simp [errW_none, errW_some] <;> rfl) | (simp [*, errW_none, errW_some] <;> rfl), by repeat (first | (with_reducible first | exact HB.out | apply below_alloc | apply pw_below_drewN | apply below_drew1 | refine below_set ?_ GE130.out) | exact HB.out)⟩
                    · rw [if_neg c39] at H
                      have c39b0 : decide (a1 ≤ 9) = false := decide_eq_false c39
                      clear c39
                      replace H := Option.bind_eq_some_iff.mp H
                      obtain ⟨t143, A400, H⟩ := H
                      replace H : (if t143 = true then (if x11_15 = true then ((rule_Error.f a2).bind fun t144 => ((bywashref1_ResetError.f a2).bind fun t145 => (some (t144 == t145)))) else (some false)) else (if x11_15 = true then (some false) else ((rule_Error.f a2).bind fun t146 => ((bywashref1_ResetError.f a2).bind fun t147 => (some (t146 == t147)))))) = some r := H
                      have A40 := Aside0.mk A400
                      clear A400
                      by_cases c41 : t143 = true
                      · subst c41
                        have H1 : (if x11_15 = true then ((rule_Error.f a2).bind fun t144 => ((bywashref1_ResetError.f a2).bind fun t145 => (some (t144 == t145)))) else (some false)) = some r := by rw [if_pos rfl] at H; exact H
                        clear H
                        have H := H1
                        clear H1
                        by_cases c42 : x11_15 = true
                        · subst c42
                          have H1 : ((rule_Error.f a2).bind fun t144 => ((bywashref1_ResetError.f a2).bind fun t145 => (some (t144 == t145)))) = some r := by rw [if_pos rfl] at H; exact H
                          clear H
                          have H := H1
                          clear H1
                          replace H := Option.bind_eq_some_iff.mp H
                          obtain ⟨t144, A430, H⟩ := H
                          replace H : ((bywashref1_ResetError.f a2).bind fun t145 => (some (t144 == t145))) = some r := H
                          have A43 := Aside0.mk A430
                          clear A430
                          replace H := Option.bind_eq_some_iff.mp H
                          obtain ⟨t145, A440, H⟩ := H
                          replace H : (some (t144 == t145)) = some r := H
                          have A44 := Aside0.mk A440
                          clear A440
                          obtain rfl := Option.some.inj H
                          go_wp2_with (first | (go_at_call 12; (with_reducible refine (rule_Known.calls a1 false _ A27.out).mono ?_); rintro e w' ⟨rfl, ⟨nd, rfl⟩⟩) | (go_at_call 13; (with_reducible refine (rule_Streamed.calls kj15 a1 true _ A40.out).mono ?_); rintro e w' ⟨rfl, ⟨nd, rfl⟩⟩) | (go_at_call 14; (with_reducible refine (rule_Error.calls a2 t144 _ A43.out).mono ?_); rintro e w' ⟨rfl, ⟨nd, rfl⟩⟩) | (go_at_call 15; (with_reducible refine (bywashref1_ResetError.calls a2 t145 _ A44.out).mono ?_); rintro e w' ⟨rfl, ⟨nd, rfl⟩⟩))
                          go_ret
                          exact ⟨by first | rfl | (simp [errW_none, errW_some] <;> rfl) | (simp [*, errW_none, errW_some] <;> rfl), by repeat (first | (with_reducible first | exact HB.out | apply below_alloc | apply pw_below_drewN | apply below_drew1 | refine below_set ?_ GE130.out) | exact HB.out)⟩
                        · replace c42 := Bool.eq_false_iff.mpr c42
                          subst c42
                          have H1 : (some false) = some r := by rw [if_neg (show ¬ (false = true) by decide)] at H; exact H
                          clear H
                          have H := H1
                          clear H1
                          obtain rfl := Option.some.inj H
                          go_wp2_with (first | (go_at_call 12; (with_reducible refine (rule_Known.calls a1 false _ A27.out).mono ?_); rintro e w' ⟨rfl, ⟨nd, rfl⟩⟩) | (go_at_call 13; (with_reducible refine (rule_Streamed.calls kj15 a1 true _ A40.out).mono ?_); rintro e w' ⟨rfl, ⟨nd, rfl⟩⟩))
                          go_ret
                          exact ⟨by first | rfl | (simp [errW_none, errW_some] <;> rfl) | (simp [*, errW_none, errW_some] <;> rfl), by repeat (first | (with_reducible first | exact HB.out | apply below_alloc | apply pw_below_drewN | apply below_drew1 | refine below_set ?_ GE130.out) | exact HB.out)⟩
                      · replace c41 := Bool.eq_false_iff.mpr c41
                        subst c41
                        have H1 : (if x11_15 = true then (some false) else ((rule_Error.f a2).bind fun t146 => ((bywashref1_ResetError.f a2).bind fun t147 => (some (t146 == t147))))) = some r := by rw [if_neg (show ¬ (false = true) by decide)] at H; exact H
                        clear H
                        have H := H1
                        clear H1
                        by_cases c45 : x11_15 = true
                        · subst c45
                          have H1 : (some false) = some r := by rw [if_pos rfl] at H; exact H
                          clear H
                          have H := H1
                          clear H1
                          obtain rfl := Option.some.inj H
                          go_wp2_with (first | (go_at_call 12; (with_reducible refine (rule_Known.calls a1 false _ A27.out).mono ?_); rintro e w' ⟨rfl, ⟨nd, rfl⟩⟩) | (go_at_call 13; (with_reducible refine (rule_Streamed.calls kj15 a1 false _ A40.out).mono ?_); rintro e w' ⟨rfl, ⟨nd, rfl⟩⟩))
                          go_ret
                          exact ⟨by first | rfl | (simp [errW_none, errW_some] <;> rfl) | (simp [*, errW_none, errW_some] <;> rfl), by repeat (first | (with_reducible first | exact HB.out | apply below_alloc | apply pw_below_drewN | apply below_drew1 | refine below_set ?_ GE130.out) | exact HB.out)⟩
                        · replace c45 := Bool.eq_false_iff.mpr c45
                          subst c45
                          have H1 : ((rule_Error.f a2).bind fun t146 => ((bywashref1_ResetError.f a2).bind fun t147 => (some (t146 == t147)))) = some r := by rw [if_neg (show ¬ (false = true) by decide)] at H; exact H
                          clear H
                          have H := H1
                          clear H1
                          replace H := Option.bind_eq_some_iff.mp H
                          obtain ⟨t146, A460, H⟩ := H
                          replace H : ((bywashref1_ResetError.f a2).bind fun t147 => (some (t146 == t147))) = some r := H
                          have A46 := Aside0.mk A460
                          clear A460
                          replace H := Option.bind_eq_some_iff.mp H
                          obtain ⟨t147, A470, H⟩ := H
                          replace H : (some (t146 == t147)) = some r := H
                          have A47 := Aside0.mk A470
                          clear A470
                          obtain rfl := Option.some.inj H
                          go_wp2_with (first | (go_at_call 12; (with_reducible refine (rule_Known.calls a1 false _ A27.out).mono ?_); rintro e w' ⟨rfl, ⟨nd, rfl⟩⟩) | (go_at_call 13; (with_reducible refine (rule_Streamed.calls kj15 a1 false _ A40.out).mono ?_); rintro e w' ⟨rfl, ⟨nd, rfl⟩⟩) | (go_at_call 14; (with_reducible refine (rule_Error.calls a2 t146 _ A46.out).mono ?_); rintro e w' ⟨rfl, ⟨nd, rfl⟩⟩) | (go_at_call 15; (with_reducible refine (bywashref1_ResetError.calls a2 t147 _ A47.out).mono ?_); rintro e w' ⟨rfl, ⟨nd, rfl⟩⟩))
                          go_ret
                          exact ⟨by first | rfl | (simp [errW_none, errW_some] <;> rfl) | (simp [*, errW_none, errW_some] <;> rfl), by repeat (first | (with_reducible first | exact HB.out | apply below_alloc | apply pw_below_drewN | apply below_drew1 | refine below_set ?_ GE130.out) | exact HB.out)⟩
                · rw [if_neg c28] at H
                  have c28b0 : decide (0 ≤ a1) = false := decide_eq_false c28
                  clear c28
                  by_cases c48 : t137 = true
                  · subst c48
                    have H1 : (some false) = some r := by rw [if_pos rfl] at H; exact H
                    clear H
                    have H := H1
                    clear H1
                    obtain rfl := Option.some.inj H
                    go_wp2_with (first | (go_at_call 12; (with_reducible refine (rule_Known.calls a1 true _ A27.out).mono ?_); rintro e w' ⟨rfl, ⟨nd, rfl⟩⟩))
                    go_ret
                    exact ⟨by first | rfl | (simp [errW_none, errW_some] <;> rfl) | (simp [*, errW_none, errW_some] <;> rfl), by repeat (first | (with_reducible first | exact HB.out | apply below_alloc | apply pw_below_drewN | apply below_drew1 | refine below_set ?_ GE130.out) | exact HB.out)⟩
                  · replace c48 := Bool.eq_false_iff.mpr c48
                    subst c48
                    have H1 : ((rule_Streamed.f kj15 a1).bind fun t148 => (if t148 = true then (if x11_15 = true then ((rule_Error.f a2).bind fun t149 => ((bywashref1_ResetError.f a2).bind fun t150 => (some (t149 == t150)))) else (some false)) else (if x11_15 = true then (some false) else ((rule_Error.f a2).bind fun t151 => ((bywashref1_ResetError.f a2).bind fun t152 => (some (t151 == t152))))))) = some r := by rw [if_neg (show ¬ (false = true) by decide)] at H; exact H
                    clear H
                    have H := H1
                    clear H1
                    replace H := Option.bind_eq_some_iff.mp H
                    obtain ⟨t148, A490, H⟩ := H
                    replace H : (if t148 = true then (if x11_15 = true then ((rule_Error.f a2).bind fun t149 => ((bywashref1_ResetError.f a2).bind fun t150 => (some (t149 == t150)))) else (some false)) else (if x11_15 = true then (some false) else ((rule_Error.f a2).bind fun t151 => ((bywashref1_ResetError.f a2).bind fun t152 => (some (t151 == t152)))))) = some r := H
                    have A49 := Aside0.mk A490
                    clear A490
                    by_cases c50 : t148 = true
                    · subst c50
                      have H1 : (if x11_15 = true then ((rule_Error.f a2).bind fun t149 => ((bywashref1_ResetError.f a2).bind fun t150 => (some (t149 == t150)))) else (some false)) = some r := by rw [if_pos rfl] at H; exact H
                      clear H
                      have H := H1
                      clear H1
                      by_cases c51 : x11_15 = true
                      · subst c51
                        have H1 : ((rule_Error.f a2).bind fun t149 => ((bywashref1_ResetError.f a2).bind fun t150 => (some (t149 == t150)))) = some r := by rw [if_pos rfl] at H; exact H
                        clear H
                        have H := H1
                        clear H1
                        replace H := Option.bind_eq_some_iff.mp H
                        obtain ⟨t149, A520, H⟩ := H
                        replace H : ((bywashref1_ResetError.f a2).bind fun t150 => (some (t149 == t150))) = some r := H
                        have A52 := Aside0.mk A520
                        clear A520
                        replace H := Option.bind_eq_some_iff.mp H
                        obtain ⟨t150, A530, H⟩ := H
                        replace H : (some (t149 == t150)) = some r := H
                        have A53 := Aside0.mk A530
                        clear A530
                        obtain rfl := Option.some.inj H
                        go_wp2_with (first | (go_at_call 12; (with_reducible refine (rule_Known.calls a1 false _ A27.out).mono ?_); rintro e w' ⟨rfl, ⟨nd, rfl⟩⟩) | (go_at_call 13; (with_reducible refine (rule_Streamed.calls kj15 a1 true _ A49.out).mono ?_); rintro e w' ⟨rfl, ⟨nd, rfl⟩⟩) | (go_at_call 14; (with_reducible refine (rule_Error.calls a2 t149 _ A52.out).mono ?_); rintro e w' ⟨rfl, ⟨nd, rfl⟩⟩) | (go_at_call 15; (with_reducible refine (bywashref1_ResetError.calls a2 t150 _ A53.out).mono ?_); rintro e w' ⟨rfl, ⟨nd, rfl⟩⟩))
                        go_ret
                        exact ⟨by first | rfl | (simp [errW_none, errW_some] <;> rfl) | (simp [*, errW_none, errW_some] <;> rfl), by repeat (first | (with_reducible first | exact HB.out | apply below_alloc | apply pw_below_drewN | apply below_drew1 | refine below_set ?_ GE130.out) | exact HB.out)⟩
                      · replace c51 := Bool.eq_false_iff.mpr c51
                        subst c51
                        have H1 : (some false) = some r := by rw [if_neg (show ¬ (false = true) by decide)] at H; exact H
                        clear H
                        have H := H1
                        clear H1
                        obtain rfl := Option.some.inj H
                        go_wp2_with (first | (go_at_call 12; (with_reducible refine (rule_Known.calls a1 false _ A27.out).mono ?_); rintro e w' ⟨rfl, ⟨nd, rfl⟩⟩) | (go_at_call 13; (with_reducible refine (rule_Streamed.calls kj15 a1 true _ A49.out).mono ?_); rintro e w' ⟨rfl, ⟨nd, rfl⟩⟩))
                        go_ret
                        exact ⟨by first | rfl | (simp [errW_none, errW_some] <;> rfl) | (simp [*, errW_none, errW_some] <;> rfl), by repeat (first | (with_reducible first | exact HB.out | apply below_alloc | apply pw_below_drewN | apply below_drew1 | refine below_set ?_ GE130.out) | exact HB.out)⟩
                    · replace c50 := Bool.eq_false_iff.mpr c50
                      subst c50
                      have H1 : (if x11_15 = true then (some false) else ((rule_Error.f a2).bind fun t151 => ((bywashref1_ResetError.f a2).bind fun t152 => (some (t151 == t152))))) = some r := by rw [if_neg (show ¬ (false = true) by decide)] at H; exact H
                      clear H
                      have H := H1
                      clear H1
                      by_cases c54 : x11_15 = true
                      · subst c54
                        have H1 : (some false) = some r := by rw [if_pos rfl] at H; exact H
                        clear H
                        have H := H1
                        clear H1
                        obtain rfl := Option.some.inj H
                        go_wp2_with (first | (go_at_call 12; (with_reducible refine (rule_Known.calls a1 false _ A27.out).mono ?_); rintro e w' ⟨rfl, ⟨nd, rfl⟩⟩) | (go_at_call 13; (with_reducible refine (rule_Streamed.calls kj15 a1 false _ A49.out).mono ?_); rintro e w' ⟨rfl, ⟨nd, rfl⟩⟩))
                        go_ret
                        exact ⟨by first | rfl | (simp [errW_none, errW_some] <;> rfl) | (simp [*, errW_none, errW_some] <;> rfl), by repeat (first | (with_reducible first | exact HB.out | apply below_alloc | apply pw_below_drewN | apply below_drew1 | refine below_set ?_ GE130.out) | exact HB.out)⟩
                      · replace c54 := Bool.eq_false_iff.mpr c54
                        subst c54
                        have H1 : ((rule_Error.f a2).bind fun t151 => ((bywashref1_ResetError.f a2).bind fun t152 => (some (t151 == t152)))) = some r := by rw [if_neg (show ¬ (false = true) by decide)] at H; exact H
                        clear H
                        have H := H1
                        clear H1
                        replace H := Option.bind_eq_some_iff.mp H
                        obtain ⟨t151, A550, H⟩ := H
                        replace H : ((bywashref1_ResetError.f a2).bind fun t152 => (some (t151 == t152))) = some r := H
                        have A55 := Aside0.mk A550
                        clear A550
                        replace H := Option.bind_eq_some_iff.mp H
                        obtain ⟨t152, A560, H⟩ := H
                        replace H : (some (t151 == t152)) = some r := H
                        have A56 := Aside0.mk A560
                        clear A560
                        obtain rfl := Option.some.inj H
                        go_wp2_with (first | (go_at_call 12; (with_reducible refine (rule_Known.calls a1 false _ A27.out).mono ?_); rintro e w' ⟨rfl, ⟨nd, rfl⟩⟩) | (go_at_call 13; (with_reducible refine (rule_Streamed.calls kj15 a1 false _ A49.out).mono ?_); rintro e w' ⟨rfl, ⟨nd, rfl⟩⟩) | (go_at_call 14; (with_reducible refine (rule_Error.calls a2 t151 _ A55.out).mono ?_); rintro e w' ⟨rfl, ⟨nd, rfl⟩⟩) | (go_at_call 15; (with_reducible refine (bywashref1_ResetError.calls a2 t152 _ A56.out).mono ?_); rintro e w' ⟨rfl, ⟨nd, rfl⟩⟩))
                        go_ret
                        exact ⟨by first | rfl | (simp [errW_none, errW_some] <;> rfl) | (simp [*, errW_none, errW_some] <;> rfl), by repeat (first | (with_reducible first | exact HB.out | apply below_alloc | apply pw_below_drewN | apply below_drew1 | refine below_set ?_ GE130.out) | exact HB.out)⟩
              · rw [if_neg c26] at H
                have c26b0 : (t134 == t136) = false := beq_eq_false_iff_ne.mpr c26
                have c26b1 : (t134 != t136) = true := bne_iff_ne.mpr c26
                obtain rfl := Option.some.inj H
                go_wp2
                go_ret
                exact ⟨by first | rfl | (simp [errW_none, errW_some] <;> rfl) | (simp [*, errW_none, errW_some] <;> rfl), by repeat (first | (with_reducible first | exact HB.out | apply below_alloc | apply pw_below_drewN | apply below_drew1 | refine below_set ?_ GE130.out) | exact HB.out)⟩
            · rw [if_neg c25] at H
              have c25b0 : (t133 == t135) = false := beq_eq_false_iff_ne.mpr c25
              have c25b1 : (t133 != t135) = true := bne_iff_ne.mpr c25
              obtain rfl := Option.some.inj H
              go_wp2
              go_ret
              exact ⟨by first | rfl | (simp [errW_none, errW_some] <;> rfl) | (simp [*, errW_none, errW_some] <;> rfl), by repeat (first | (with_reducible first | exact HB.out | apply below_alloc | apply pw_below_drewN | apply below_drew1 | refine below_set ?_ GE130.out) | exact HB.out)⟩

end Go.Proofs.Ythbhipmflbbgnaa.PRuleTells
