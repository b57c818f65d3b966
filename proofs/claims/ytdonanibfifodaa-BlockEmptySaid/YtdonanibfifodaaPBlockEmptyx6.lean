-- Written by a program of this session (the kit's printer, turned): the functions that the law reaches.
import Derived.Test.YtdonanibfifodaaPBlockEmptyx0
import Derived.Test.YtdonanibfifodaaPBlockEmptyx1
import Derived.Test.YtdonanibfifodaaPBlockEmptyx2
import Derived.Test.YtdonanibfifodaaPBlockEmptyx5
namespace Go.Proofs.Ytdonanibfifodaa.PBlockEmpty
open Go.RowKit Go.Proofs.YtdonanibfifodaaW.PrintWords Go.Proofs.YtdonanibfifodaaW.PrintLast Go.Proofs.YtdonanibfifodaaW.PrintMore
attribute [local go_sem] max2_int min2_int max_two min_two max_three min_three max_four min_four   -- for this text's walks alone
set_option linter.unusedVariables false
set_option linter.unusedSimpArgs false

attribute [local go_sem high] eqA41
/-! ### bywashlaw11_BlockEmpty: function 8 -/
mutual
def bywashlaw11_BlockEmpty.j0 : Nat → Int → Bool → Bool → Option (Bool)
  | 0, _, _, _ => none
  | k + 1, x0, x1, x20 => if x20 = true then ((bywashlaw11_alive.f k).bind fun t184 => (some t184)) else ((block_Cut.f k x0 (⟨#[]⟩ : ByteArray) x1 64).bind fun bt185 => ((block_New.f 1).bind fun bt189 => (if bt185.2 = true then (if (bt185.1.length : Int) = 1 then (bywashlaw11_BlockEmpty.j1 k x0 x1 bt185.1 false bt189.1 bt189.2.1 bt189.2.2.1 bt189.2.2.2) else (bywashlaw11_BlockEmpty.j1 k x0 x1 bt185.1 true bt189.1 bt189.2.1 bt189.2.2.1 bt189.2.2.2)) else (bywashlaw11_BlockEmpty.j1 k x0 x1 bt185.1 true bt189.1 bt189.2.1 bt189.2.2.1 bt189.2.2.2))))
def bywashlaw11_BlockEmpty.j1 : Nat → Int → Bool → List (S39) → Bool → Int → Int → ByteArray → Bool → Option (Bool)
  | 0, _, _, _, _, _, _, _, _ => none
  | k + 1, x0, x1, x5, x39, x194000, x194001, x194002, x194003 => if x39 = true then (some false) else (if 0 < (x5.length : Int) then ((block_Blocks_Take.f k x194000 x194001 x194002 x194003 ((rd_T39 x5 0).f0) ((rd_T39 x5 0).f1) ((rd_T39 x5 0).f2) ((rd_T39 x5 0).f3)).bind fun bt195 => (if bt195.2.2.2.1 = true then (if bt195.2.2.2.2.1 = 0 then (if (bt195.1 == x0 && (bt195.2.1.toList == ([] : List UInt8) && (bt195.2.2.1 == x1))) = true then ((block_Blocks_Open.f bt195.2.2.2.2.2.1 bt195.2.2.2.2.2.2.1 bt195.2.2.2.2.2.2.2.1 bt195.2.2.2.2.2.2.2.2).bind fun bt205 => (some (bt205.1 == 0))) else (some false)) else (some false)) else (some false))) else (none))
end
def bywashlaw11_BlockEmpty.f (k : Nat) (a0 : Int) (a1 : Bool) : Option (Bool) := if a0 < 1 then (bywashlaw11_BlockEmpty.j0 k a0 a1 true) else (if a0 > 2147483647 then (bywashlaw11_BlockEmpty.j0 k a0 a1 true) else ((bywashlaw11_alive.f k).bind fun t183 => (bywashlaw11_BlockEmpty.j0 k a0 a1 (!t183))))
theorem bywashlaw11_BlockEmpty.mono_l : ∀ k, (∀ y0 y1 y2, LeO (bywashlaw11_BlockEmpty.j0 k y0 y1 y2) (bywashlaw11_BlockEmpty.j0 (k + 1) y0 y1 y2)) ∧ (∀ y0 y1 y2 y3 y4 y5 y6 y7, LeO (bywashlaw11_BlockEmpty.j1 k y0 y1 y2 y3 y4 y5 y6 y7) (bywashlaw11_BlockEmpty.j1 (k + 1) y0 y1 y2 y3 y4 y5 y6 y7))
  | 0 => ⟨fun _ _ _ r h => by simp [bywashlaw11_BlockEmpty.j0] at h, fun _ _ _ _ _ _ _ _ r h => by simp [bywashlaw11_BlockEmpty.j1] at h⟩
  | k + 1 => by
    obtain ⟨ih0, ih1⟩ := bywashlaw11_BlockEmpty.mono_l k
    refine ⟨?_, ?_⟩
    · intro y0 y1 y2
      unfold bywashlaw11_BlockEmpty.j0
      repeat' first
      | (with_reducible exact ih0 _ _ _)
      | (with_reducible exact ih1 _ _ _ _ _ _ _ _)
      | (with_reducible exact block_Blocks_Take.mono _ _ _ _ _ _ _ _ _)
      | (with_reducible exact block_Cut.mono _ _ _ _ _)
      | (with_reducible exact bywashlaw11_alive.mono _)
      | (with_reducible exact LeO.refl _)
      | (with_reducible exact LeO.none _)
      | (with_reducible refine LeO.ite ?_ ?_)
      | (with_reducible refine LeO.bind ?_ (fun _ => ?_))
      | exact ih0 _ _ _
      | exact ih1 _ _ _ _ _ _ _ _
      | exact block_Blocks_Take.mono _ _ _ _ _ _ _ _ _
      | exact block_Cut.mono _ _ _ _ _
      | exact bywashlaw11_alive.mono _
      | exact LeO.none _
      | refine LeO.ite ?_ ?_
      | refine LeO.bind ?_ (fun _ => ?_)
    · intro y0 y1 y2 y3 y4 y5 y6 y7
      unfold bywashlaw11_BlockEmpty.j1
      repeat' first
      | (with_reducible exact ih0 _ _ _)
      | (with_reducible exact ih1 _ _ _ _ _ _ _ _)
      | (with_reducible exact block_Blocks_Take.mono _ _ _ _ _ _ _ _ _)
      | (with_reducible exact block_Cut.mono _ _ _ _ _)
      | (with_reducible exact bywashlaw11_alive.mono _)
      | (with_reducible exact LeO.refl _)
      | (with_reducible exact LeO.none _)
      | (with_reducible refine LeO.ite ?_ ?_)
      | (with_reducible refine LeO.bind ?_ (fun _ => ?_))
      | exact ih0 _ _ _
      | exact ih1 _ _ _ _ _ _ _ _
      | exact block_Blocks_Take.mono _ _ _ _ _ _ _ _ _
      | exact block_Cut.mono _ _ _ _ _
      | exact bywashlaw11_alive.mono _
      | exact LeO.none _
      | refine LeO.ite ?_ ?_
      | refine LeO.bind ?_ (fun _ => ?_)
theorem bywashlaw11_BlockEmpty.mono : ∀ a0 a1 k, LeO (bywashlaw11_BlockEmpty.f k a0 a1) (bywashlaw11_BlockEmpty.f (k + 1) a0 a1) := by
  intro a0 a1 k
  obtain ⟨ih0, ih1⟩ := bywashlaw11_BlockEmpty.mono_l k
  unfold bywashlaw11_BlockEmpty.f
  repeat' first
      | (with_reducible exact ih0 _ _ _)
      | (with_reducible exact ih1 _ _ _ _ _ _ _ _)
      | (with_reducible exact block_Blocks_Take.mono _ _ _ _ _ _ _ _ _)
      | (with_reducible exact block_Cut.mono _ _ _ _ _)
      | (with_reducible exact bywashlaw11_alive.mono _)
      | (with_reducible exact LeO.refl _)
      | (with_reducible exact LeO.none _)
      | (with_reducible refine LeO.ite ?_ ?_)
      | (with_reducible refine LeO.bind ?_ (fun _ => ?_))
      | exact ih0 _ _ _
      | exact ih1 _ _ _ _ _ _ _ _
      | exact block_Blocks_Take.mono _ _ _ _ _ _ _ _ _
      | exact block_Cut.mono _ _ _ _ _
      | exact bywashlaw11_alive.mono _
      | exact LeO.none _
      | refine LeO.ite ?_ ?_
      | refine LeO.bind ?_ (fun _ => ?_)
set_option maxHeartbeats 8000000 in
set_option maxRecDepth 100000 in
theorem bywashlaw11_BlockEmpty.calls (k : Nat) (a0 : Int) (a1 : Bool) (r : Bool) (w : World) (h : bywashlaw11_BlockEmpty.f k a0 a1 = some r) :
    Calls Try.prog 8 #[.int .i64 a0, .bool a1] w fun e w' => e = .returned (.bool r) ∧ Below w.heap.size w w' := by
  have hfs41_0 : ∀ (v0_ : Int) (v1_ : ByteArray) (v2_ : Bool) (W_ : World), (Instr.field 41 (.agg #[.int .i64 v0_, .string v1_, .bool v2_]) 0).run Try.prog W_ = .ok (.int .i64 v0_) W_ := fun v0_ v1_ v2_ _ => by kernel_rfl
  have hfs41_1 : ∀ (v0_ : Int) (v1_ : ByteArray) (v2_ : Bool) (W_ : World), (Instr.field 41 (.agg #[.int .i64 v0_, .string v1_, .bool v2_]) 1).run Try.prog W_ = .ok (.string v1_) W_ := fun v0_ v1_ v2_ _ => by kernel_rfl
  have hfs41_2 : ∀ (v0_ : Int) (v1_ : ByteArray) (v2_ : Bool) (W_ : World), (Instr.field 41 (.agg #[.int .i64 v0_, .string v1_, .bool v2_]) 2).run Try.prog W_ = .ok (.bool v2_) W_ := fun v0_ v1_ v2_ _ => by kernel_rfl
  have hu39 := Try.underlying39
  have hu41 := Try.underlying41
  have HB := Aside0.mk (Below.refl w.heap.size w)
  have H : (if a0 < 1 then (bywashlaw11_BlockEmpty.j0 k a0 a1 true) else (if a0 > 2147483647 then (bywashlaw11_BlockEmpty.j0 k a0 a1 true) else ((bywashlaw11_alive.f k).bind fun t183 => (bywashlaw11_BlockEmpty.j0 k a0 a1 (!t183))))) = some r := h
  clear h
  have HC3 := Aside0.mk H
  clear H
  go_enter Try.func8, Try.ntmps8
  go_upto_region 1 with (fail)
  go_cut [20] (fun v20 wc => ∃ (kq : Nat) (x20_2 : Bool), v20 = .bool x20_2 ∧ Aside0 (bywashlaw11_BlockEmpty.j0 kq a0 a1 x20_2 = some r) ∧ Aside0 (kq ≤ k) ∧ Aside0 (Below w.heap.size w wc))
  case first =>
    have H := HC3.out
    clear HC3
    by_cases c4 : a0 < 1
    · rw [if_pos c4] at H
      have c4b0 : decide (a0 < 1) = true := decide_eq_true c4
      clear c4
      (first | rw [c4b0] | (simp only [i64_w, i32_w]; rw [c4b0]) | skip)
      have H' := Aside0.mk H
      clear H
      go_wp2
      go_meet
      case rel => exact ⟨_, (true), (by first | rfl | (simp; done) | (simp [*]; done)), H', ⟨by first | omega | exact Nat.le_refl _⟩, ⟨by repeat (first | (with_reducible first | exact HB.out | apply below_alloc | apply pw_below_drewN | apply below_drew1) | exact HB.out)⟩⟩
    · rw [if_neg c4] at H
      have c4b0 : decide (a0 < 1) = false := decide_eq_false c4
      clear c4
      (first | rw [c4b0] | (simp only [i64_w, i32_w]; rw [c4b0]) | skip)
      by_cases c5 : a0 > 2147483647
      · rw [if_pos c5] at H
        have c5b0 : decide (2147483647 < a0) = true := decide_eq_true c5
        clear c5
        have H' := Aside0.mk H
        clear H
        go_wp2
        go_meet
        case rel => exact ⟨_, (true), (by first | rfl | (simp; done) | (simp [*]; done)), H', ⟨by first | omega | exact Nat.le_refl _⟩, ⟨by repeat (first | (with_reducible first | exact HB.out | apply below_alloc | apply pw_below_drewN | apply below_drew1) | exact HB.out)⟩⟩
      · rw [if_neg c5] at H
        have c5b0 : decide (2147483647 < a0) = false := decide_eq_false c5
        clear c5
        replace H := Option.bind_eq_some_iff.mp H
        obtain ⟨t183, A60, H⟩ := H
        replace H : (bywashlaw11_BlockEmpty.j0 k a0 a1 (!t183)) = some r := H
        have A6 := Aside0.mk A60
        clear A60
        have H' := Aside0.mk H
        clear H
        go_wp2_with (first | (go_at_call 10; (with_reducible refine (bywashlaw11_alive.calls k  t183 _ A6.out).mono ?_); rintro e w7 ⟨rfl, hb⟩; have n0_ := Aside0.mk (below_step (by repeat (first | (with_reducible first | exact HB.out | apply below_alloc | apply pw_below_drewN | apply below_drew1) | exact HB.out)) hb); clear HB; have HB := n0_; clear n0_; (try clear hb); (try clear hb2); (try clear hk); (try clear hi)))
        go_meet
        case rel => exact ⟨_, (!t183), (by first | rfl | (simp; done) | (simp [*]; done)), H', ⟨by first | omega | exact Nat.le_refl _⟩, ⟨by repeat (first | (with_reducible first | exact HB.out | apply below_alloc | apply pw_below_drewN | apply below_drew1) | exact HB.out)⟩⟩
  case rest =>
    clear HC3
    try clear p2
    try clear c4
    try clear c4b0
    try clear c5
    try clear c5b0
    obtain ⟨kq, x20_2, rfl, HA, HJ2, HB⟩ := hcut
    cases kq with
    | zero => exact absurd HA.out (by simp [bywashlaw11_BlockEmpty.j0])
    | succ kj2 =>
      have H := HA.out
      clear HA
      simp only [bywashlaw11_BlockEmpty.j0] at H
      by_cases c8 : x20_2 = true
      · subst c8
        have H1 : ((bywashlaw11_alive.f kj2).bind fun t184 => (some t184)) = some r := by rw [if_pos rfl] at H; exact H
        clear H
        have H := H1
        clear H1
        replace H := Option.bind_eq_some_iff.mp H
        obtain ⟨t184, A90, H⟩ := H
        replace H : (some t184) = some r := H
        have A9 := Aside0.mk A90
        clear A90
        obtain rfl := Option.some.inj H
        go_wp2_with (first | ((with_reducible refine gate_callee (f := 10) rfl ?_); refine goesL_ (some 21) rfl rfl Try.func10 (by kernel_rfl) rfl #[] rfl (by (try simp only [List.map_toArray, List.map_cons, List.map_nil]); first | done | rfl | (simp only [List.length_drop, List.length_take]; rfl)) ?_; (with_reducible refine (bywashlaw11_alive.calls kj2  t184 _ A9.out).mono ?_); rintro e w10 ⟨rfl, hb⟩; refine ⟨_, rfl, ?_⟩; have n0_ := Aside0.mk (below_step (by repeat (first | (with_reducible first | exact HB.out | apply below_alloc | apply pw_below_drewN | apply below_drew1) | exact HB.out)) hb); clear HB; have HB := n0_; clear n0_; (try clear hb); (try clear hb2); (try clear hk); (try clear hi)))
        go_ret
        exact ⟨by first | rfl | (simp [errW_none, errW_some] <;> rfl) | (simp [*, errW_none, errW_some] <;> rfl), by repeat (first | (with_reducible first | exact HB.out | apply below_alloc | apply pw_below_drewN | apply below_drew1) | exact HB.out)⟩
      · replace c8 := Bool.eq_false_iff.mpr c8
        subst c8
        have H1 : ((block_Cut.f kj2 a0 (⟨#[]⟩ : ByteArray) a1 64).bind fun bt185 => ((block_New.f 1).bind fun bt189 => (if bt185.2 = true then (if (bt185.1.length : Int) = 1 then (bywashlaw11_BlockEmpty.j1 kj2 a0 a1 bt185.1 false bt189.1 bt189.2.1 bt189.2.2.1 bt189.2.2.2) else (bywashlaw11_BlockEmpty.j1 kj2 a0 a1 bt185.1 true bt189.1 bt189.2.1 bt189.2.2.1 bt189.2.2.2)) else (bywashlaw11_BlockEmpty.j1 kj2 a0 a1 bt185.1 true bt189.1 bt189.2.1 bt189.2.2.1 bt189.2.2.2)))) = some r := by rw [if_neg (show ¬ (false = true) by decide)] at H; exact H
        clear H
        have H := H1
        clear H1
        replace H := Option.bind_eq_some_iff.mp H
        obtain ⟨⟨t185, t186⟩, A110, H⟩ := H
        replace H : ((block_New.f 1).bind fun bt189 => (if t186 = true then (if (t185.length : Int) = 1 then (bywashlaw11_BlockEmpty.j1 kj2 a0 a1 t185 false bt189.1 bt189.2.1 bt189.2.2.1 bt189.2.2.2) else (bywashlaw11_BlockEmpty.j1 kj2 a0 a1 t185 true bt189.1 bt189.2.1 bt189.2.2.1 bt189.2.2.2)) else (bywashlaw11_BlockEmpty.j1 kj2 a0 a1 t185 true bt189.1 bt189.2.1 bt189.2.2.1 bt189.2.2.2))) = some r := H
        have A11 := Aside0.mk A110
        clear A110
        replace H := Option.bind_eq_some_iff.mp H
        obtain ⟨⟨t189, t190, t191, t192⟩, A120, H⟩ := H
        replace H : (if t186 = true then (if (t185.length : Int) = 1 then (bywashlaw11_BlockEmpty.j1 kj2 a0 a1 t185 false t189 t190 t191 t192) else (bywashlaw11_BlockEmpty.j1 kj2 a0 a1 t185 true t189 t190 t191 t192)) else (bywashlaw11_BlockEmpty.j1 kj2 a0 a1 t185 true t189 t190 t191 t192)) = some r := H
        have A12 := Aside0.mk A120
        clear A120
        have HC13 := Aside0.mk H
        clear H
        go_upto_region 5 with (first | ((with_reducible refine gate_callee (f := 11) rfl ?_); refine goesL_ (some 25) rfl rfl Try.func11 (by kernel_rfl) rfl #[.int .i64 a0, .string (⟨#[]⟩ : ByteArray), .bool a1, .int .i64 64] rfl (by (try simp only [List.map_toArray, List.map_cons, List.map_nil]); first | done | rfl | (simp only [List.length_drop, List.length_take]; rfl)) ?_; (with_reducible refine (block_Cut.calls kj2 a0 (⟨#[]⟩ : ByteArray) a1 64 t185 t186 _ A11.out).mono ?_); rintro e w14 ⟨v187, rfl, ho0, hb⟩; refine ⟨_, rfl, ?_⟩; have n0_ := Aside0.mk (Kd.R_lower ho0 (below_size (by repeat (first | (with_reducible first | exact HB.out | apply below_alloc | apply pw_below_drewN | apply below_drew1) | exact HB.out)))); have n1_ := Aside0.mk (below_step (by repeat (first | (with_reducible first | exact HB.out | apply below_alloc | apply pw_below_drewN | apply below_drew1) | exact HB.out)) hb); clear HB; have HO188 := n0_; have HB := n1_; clear n0_ n1_; (try clear hb); (try clear hb2); (try clear hk); (try clear hi); (try clear ho0)) | ((with_reducible refine gate_callee (f := 15) rfl ?_); refine goesL_ (some 28) rfl rfl Try.func15 (by kernel_rfl) rfl #[.int .i64 1] rfl (by (try simp only [List.map_toArray, List.map_cons, List.map_nil]); first | done | rfl | (simp only [List.length_drop, List.length_take]; rfl)) ?_; (with_reducible refine (block_New.calls 1 t189 t190 t191 t192 w _ ?side1 A12.out).mono ?_); (case side1 => repeat (first | (with_reducible first | exact HB.out | apply below_alloc | apply pw_below_drewN | apply below_drew1) | exact HB.out)); rintro e w15 ⟨g193, rfl, hi, hb, hb2⟩; refine ⟨_, rfl, ?_⟩; have n0_ := Aside0.mk (Kd.R_below (by (with_reducible repeat (first | apply Kd.R_alloc | apply Kd.R_drewN | apply Kd.R_drew)); exact HO188.out) hb2); have n1_ := Aside0.mk (hb); have n2_ := Aside0.mk (hi); clear HO188; clear HB; have HO188 := n0_; have HB := n1_; have HI193 := n2_; clear n0_ n1_ n2_; (try clear hb); (try clear hb2); (try clear hk); (try clear hi)))
        (try simp only [Act.put, List.setIfInBounds_toArray, List.set_cons_zero, List.set_cons_succ])
        go_cut [39] (fun v39 wc => ∃ (kq : Nat) (x39_12 : Bool), v39 = .bool x39_12 ∧ Aside0 (bywashlaw11_BlockEmpty.j1 kq a0 a1 t185 x39_12 t189 t190 t191 t192 = some r) ∧ Aside0 (kq ≤ kj2) ∧ Aside0 (Kd.R k39 39 wc w.heap.size (fun _ => True) v187 t185) ∧ Aside0 (IsS63 w wc g193 t189 t190 t191 t192) ∧ Aside0 (Below w.heap.size w wc))
        case first =>
          have H := HC13.out
          clear HC13
          by_cases c16 : t186 = true
          · subst c16
            have H1 : (if (t185.length : Int) = 1 then (bywashlaw11_BlockEmpty.j1 kj2 a0 a1 t185 false t189 t190 t191 t192) else (bywashlaw11_BlockEmpty.j1 kj2 a0 a1 t185 true t189 t190 t191 t192)) = some r := by rw [if_pos rfl] at H; exact H
            clear H
            have H := H1
            clear H1
            by_cases c17 : (t185.length : Int) = 1
            · rw [if_pos c17] at H
              have c17b0 : ((t185.length : Int) == 1) = true := beq_iff_eq.mpr c17
              have c17b1 : ((t185.length : Int) != 1) = false := bne_eq_false_iff_eq.mpr c17
              clear c17
              (first | rw [c17b0] | (simp only [i64_w, i32_w]; rw [c17b0]) | skip)
              have H' := Aside0.mk H
              clear H
              obtain ⟨Ao18, co18, eo18⟩ := Kd.R_slice HO188.out
              subst eo18
              go_wp2
              go_meet
              case rel => exact ⟨_, (false), (by first | rfl | (simp; done) | (simp [*]; done)), H', ⟨by have := HJ2.out; first | omega | exact Nat.le_refl _⟩, ⟨by (with_reducible repeat (first | apply Kd.R_alloc | apply Kd.R_drewN | apply Kd.R_drew)); exact HO188.out⟩, ⟨by repeat (first | (with_reducible first | exact HI193.out | apply IsS63.alloc | apply IsS63.drewN | apply IsS63.drew | apply IsS63.set_0 | apply IsS63.set_1 | apply IsS63.set_2 | apply IsS63.set_3) | exact HI193.out)⟩, ⟨by repeat (first | (with_reducible first | exact HB.out | apply below_alloc | apply pw_below_drewN | apply below_drew1 | refine below_set ?_ (IsS63.ge HI193.out)) | exact HB.out)⟩⟩
            · rw [if_neg c17] at H
              have c17b0 : ((t185.length : Int) == 1) = false := beq_eq_false_iff_ne.mpr c17
              have c17b1 : ((t185.length : Int) != 1) = true := bne_iff_ne.mpr c17
              (first | rw [c17b0] | (simp only [i64_w, i32_w]; rw [c17b0]) | skip)
              have H' := Aside0.mk H
              clear H
              obtain ⟨Ao19, co19, eo19⟩ := Kd.R_slice HO188.out
              subst eo19
              go_wp2
              go_meet
              case rel => exact ⟨_, (true), (by first | rfl | (simp; done) | (simp [*]; done)), H', ⟨by have := HJ2.out; first | omega | exact Nat.le_refl _⟩, ⟨by (with_reducible repeat (first | apply Kd.R_alloc | apply Kd.R_drewN | apply Kd.R_drew)); exact HO188.out⟩, ⟨by repeat (first | (with_reducible first | exact HI193.out | apply IsS63.alloc | apply IsS63.drewN | apply IsS63.drew | apply IsS63.set_0 | apply IsS63.set_1 | apply IsS63.set_2 | apply IsS63.set_3) | exact HI193.out)⟩, ⟨by repeat (first | (with_reducible first | exact HB.out | apply below_alloc | apply pw_below_drewN | apply below_drew1 | refine below_set ?_ (IsS63.ge HI193.out)) | exact HB.out)⟩⟩
          · replace c16 := Bool.eq_false_iff.mpr c16
            subst c16
            have H1 : (bywashlaw11_BlockEmpty.j1 kj2 a0 a1 t185 true t189 t190 t191 t192) = some r := by rw [if_neg (show ¬ (false = true) by decide)] at H; exact H
            clear H
            have H := H1
            clear H1
            have H' := Aside0.mk H
            clear H
            go_wp2
            go_meet
            case rel => exact ⟨_, (true), (by first | rfl | (simp; done) | (simp [*]; done)), H', ⟨by have := HJ2.out; first | omega | exact Nat.le_refl _⟩, ⟨by (with_reducible repeat (first | apply Kd.R_alloc | apply Kd.R_drewN | apply Kd.R_drew)); exact HO188.out⟩, ⟨by repeat (first | (with_reducible first | exact HI193.out | apply IsS63.alloc | apply IsS63.drewN | apply IsS63.drew | apply IsS63.set_0 | apply IsS63.set_1 | apply IsS63.set_2 | apply IsS63.set_3) | exact HI193.out)⟩, ⟨by repeat (first | (with_reducible first | exact HB.out | apply below_alloc | apply pw_below_drewN | apply below_drew1 | refine below_set ?_ (IsS63.ge HI193.out)) | exact HB.out)⟩⟩
        case rest =>
          clear HC13
          try clear c1
          try clear p2
          try clear c4
          try clear c4b0
          try clear c5
          try clear c5b0
          try clear c8
          try clear c10
          try clear c11
          try clear c15
          try clear c16
          try clear c17
          try clear c17b0
          try clear c17b1
          try clear p2
          obtain ⟨kq, x39_12, rfl, HA, HJ12, HO_5, HI193, HB⟩ := hcut
          cases kq with
          | zero => exact absurd HA.out (by simp [bywashlaw11_BlockEmpty.j1])
          | succ kj12 =>
            have H := HA.out
            clear HA
            simp only [bywashlaw11_BlockEmpty.j1] at H
            by_cases c20 : x39_12 = true
            · subst c20
              have H1 : (some false) = some r := by rw [if_pos rfl] at H; exact H
              clear H
              have H := H1
              clear H1
              obtain rfl := Option.some.inj H
              go_wp2
              go_ret
              exact ⟨by first | rfl | (simp [errW_none, errW_some] <;> rfl) | (simp [*, errW_none, errW_some] <;> rfl), by repeat (first | (with_reducible first | exact HB.out | apply below_alloc | apply pw_below_drewN | apply below_drew1 | refine below_set ?_ (IsS63.ge HI193.out)) | exact HB.out)⟩
            · replace c20 := Bool.eq_false_iff.mpr c20
              subst c20
              have H1 : (if 0 < (t185.length : Int) then ((block_Blocks_Take.f kj12 t189 t190 t191 t192 ((rd_T39 t185 0).f0) ((rd_T39 t185 0).f1) ((rd_T39 t185 0).f2) ((rd_T39 t185 0).f3)).bind fun bt195 => (if bt195.2.2.2.1 = true then (if bt195.2.2.2.2.1 = 0 then (if (bt195.1 == a0 && (bt195.2.1.toList == ([] : List UInt8) && (bt195.2.2.1 == a1))) = true then ((block_Blocks_Open.f bt195.2.2.2.2.2.1 bt195.2.2.2.2.2.2.1 bt195.2.2.2.2.2.2.2.1 bt195.2.2.2.2.2.2.2.2).bind fun bt205 => (some (bt205.1 == 0))) else (some false)) else (some false)) else (some false))) else (none)) = some r := by rw [if_neg (show ¬ (false = true) by decide)] at H; exact H
              clear H
              have H := H1
              clear H1
              by_cases c21 : 0 < (t185.length : Int)
              · rw [if_pos c21] at H
                have c21b0 : decide (0 < (t185.length : Int)) = true := decide_eq_true c21
                have c21b1 : decide (0 < t185.length) = true := decide_eq_true (by omega)
                clear c21
                replace H := Option.bind_eq_some_iff.mp H
                obtain ⟨⟨t195, t196, t197, t198, t199, t200, t201, t202, t203⟩, A220, H⟩ := H
                replace H : (if t198 = true then (if t199 = 0 then (if (t195 == a0 && (t196.toList == ([] : List UInt8) && (t197 == a1))) = true then ((block_Blocks_Open.f t200 t201 t202 t203).bind fun bt205 => (some (bt205.1 == 0))) else (some false)) else (some false)) else (some false)) = some r := H
                have A22 := Aside0.mk A220
                clear A220
                by_cases c23 : t198 = true
                · subst c23
                  have H1 : (if t199 = 0 then (if (t195 == a0 && (t196.toList == ([] : List UInt8) && (t197 == a1))) = true then ((block_Blocks_Open.f t200 t201 t202 t203).bind fun bt205 => (some (bt205.1 == 0))) else (some false)) else (some false)) = some r := by rw [if_pos rfl] at H; exact H
                  clear H
                  have H := H1
                  clear H1
                  by_cases c24 : t199 = 0
                  · rw [if_pos c24] at H
                    have c24b0 : (t199 == 0) = true := beq_iff_eq.mpr c24
                    have c24b1 : (t199 != 0) = false := bne_eq_false_iff_eq.mpr c24
                    clear c24
                    by_cases c25 : (t195 == a0 && (t196.toList == ([] : List UInt8) && (t197 == a1))) = true
                    · rw [if_pos c25] at H
                      have c25b0 : (t195 == a0 && (t196.toList == ([] : List UInt8) && (t197 == a1))) = true := c25
                      have c25p : (t195 = a0 ∧ t196.toList = ([] : List UInt8) ∧ t197 = a1) = True := eq_true (by simpa using c25b0)
                      (try (have c25b1 : decide (t195 = a0 && (t196.toList == ([] : List UInt8) && (t197 == a1))) = true := by simpa using c25))
                      (try (have c25b2 : (t195 == a0 && (t196.toList == ([] : List UInt8) && (t197 == a1))) = true := by simpa using c25))
                      clear c25
                      replace H := Option.bind_eq_some_iff.mp H
                      obtain ⟨⟨t205, t206, t207, t208, t209⟩, A260, H⟩ := H
                      replace H : (some (t205 == 0)) = some r := H
                      have A26 := Aside0.mk A260
                      clear A260
                      obtain rfl := Option.some.inj H
                      obtain ⟨Ao27, co27, eo27⟩ := Kd.R_slice HO_5.out
                      subst eo27
                      have p194 : 0 ≤ (0 : Int) := (by omega)
                      have q194 : 0 < (t185.length : Int) := of_decide_eq_true (by first | (with_reducible assumption) | assumption)
                      obtain ⟨ad194, e194, hx194_0, hx194_1, hx194_2, hx194_3⟩ := at_T39 (Kd.R_reads' HO_5.out).2.2 0 p194 q194
                      cases e194
                      have qi194 : (0 < t185.length) = True := eq_true (by omega)
                      (try rw [show ((0 : Int)).toNat = 0 from rfl] at hx194_0)
                      (try rw [show 0 * 4 = 0 from rfl] at hx194_0)
                      (try rw [Addr.add_zero'] at hx194_0)
                      (try rw [show ((0 : Int)).toNat = 0 from rfl] at hx194_1)
                      (try rw [show 0 * 4 = 0 from rfl] at hx194_1)
                      (try rw [Addr.add_zero'] at hx194_1)
                      (try rw [show ((0 : Int)).toNat = 0 from rfl] at hx194_2)
                      (try rw [show 0 * 4 = 0 from rfl] at hx194_2)
                      (try rw [Addr.add_zero'] at hx194_2)
                      (try rw [show ((0 : Int)).toNat = 0 from rfl] at hx194_3)
                      (try rw [show 0 * 4 = 0 from rfl] at hx194_3)
                      (try rw [Addr.add_zero'] at hx194_3)
                      replace p194 := eq_true p194
                      replace q194 := eq_true q194
                      go_wp2_with (first | ((with_reducible refine gate_callee (f := 16) rfl ?_); refine goesL_ (some 45) rfl rfl Try.func16 (by kernel_rfl) rfl #[.pointer (some ⟨g193, 0, none⟩), .agg #[.int .i64 ((rd_T39 t185 0).f0), .int .i64 ((rd_T39 t185 0).f1), .int .i64 ((rd_T39 t185 0).f2), .string ((rd_T39 t185 0).f3)]] rfl (by (try simp only [List.map_toArray, List.map_cons, List.map_nil]); first | done | rfl | (simp only [List.length_drop, List.length_take]; rfl)) ?_; (with_reducible refine (block_Blocks_Take.calls kj12 g193 t189 t190 t191 t192 ((rd_T39 t185 0).f0) ((rd_T39 t185 0).f1) ((rd_T39 t185 0).f2) ((rd_T39 t185 0).f3) t195 t196 t197 true t199 t200 t201 t202 t203 w _ ?side1 ?side2 A22.out).mono ?_); (case side1 => repeat (first | (with_reducible first | exact HI193.out | apply IsS63.alloc | apply IsS63.drewN | apply IsS63.drew | apply IsS63.set_0 | apply IsS63.set_1 | apply IsS63.set_2 | apply IsS63.set_3) | exact HI193.out)); (case side2 => repeat (first | (with_reducible first | exact HB.out | apply below_alloc | apply pw_below_drewN | apply below_drew1 | refine below_set ?_ (IsS63.ge HI193.out)) | exact HB.out)); rintro e w28 ⟨rfl, hi, hb, hk⟩; refine ⟨_, rfl, ?_⟩; have n0_ := Aside0.mk (Kd.R_mono (Kd.R_keep (IsS63.apart (show IsS63 w _ g193 t189 t190 t191 t192 from by repeat (first | (with_reducible first | exact HI193.out | apply IsS63.alloc | apply IsS63.drewN | apply IsS63.drew | apply IsS63.set_0 | apply IsS63.set_1 | apply IsS63.set_2 | apply IsS63.set_3) | exact HI193.out)) (by (with_reducible repeat (first | apply Kd.R_alloc | apply Kd.R_drewN | apply Kd.R_drew)); exact HO_5.out) (by decide)) hk (fun _ h => h.2)) (fun _ h => h.1)); have n1_ := Aside0.mk (hb); have n2_ := Aside0.mk (hi); clear HO_5; clear HB; clear HI193; have HO_5 := n0_; have HB := n1_; have HI193 := n2_; clear n0_ n1_ n2_; (try clear hb); (try clear hb2); (try clear hk); (try clear hi)) | ((with_reducible refine gate_dst (N := 8) rfl ?_); (try (refine gate_guard (by rfl) ?_; dsimp only)); refine box_event ?hg (N := 8) ?hd (cs := #[.int .i64 0, .string (⟨#[]⟩ : ByteArray), .bool false]) (t := 41) ?hr ?_; (case hd => rfl); (case hg => rfl); (case hr => first | (go_simp; done) | (go_simp; rfl)); intro gb204 hg w29 hbox hb; have n0_ := Aside0.mk (Kd.R_below (by (with_reducible repeat (first | apply Kd.R_alloc | apply Kd.R_drewN | apply Kd.R_drew)); exact HO_5.out) hb); have n1_ := Aside0.mk (IsS63.below (by repeat (first | (with_reducible first | exact HI193.out | apply IsS63.alloc | apply IsS63.drewN | apply IsS63.drew | apply IsS63.set_0 | apply IsS63.set_1 | apply IsS63.set_2 | apply IsS63.set_3) | exact HI193.out)) hb); have n2_ := Aside0.mk (below_step (by repeat (first | (with_reducible first | exact HB.out | apply below_alloc | apply pw_below_drewN | apply below_drew1 | refine below_set ?_ (IsS63.ge HI193.out)) | exact HB.out)) hb); have n3_ := Aside0.mk (hbox); have n4_ := Aside0.mk ((by rw [hg]; exact (below_size (by repeat (first | (with_reducible first | exact HB.out | apply below_alloc | apply pw_below_drewN | apply below_drew1 | refine below_set ?_ (IsS63.ge HI193.out)) | exact HB.out))) : w.heap.size ≤ gb204)); have n5_ := Aside0.mk ((by rw [hg]; exact (below_size (by repeat (first | (with_reducible first | exact HB.out | apply below_alloc | apply pw_below_drewN | apply below_drew1 | refine below_set ?_ (IsS63.ge HI193.out)) | exact HB.out))) : w.heap.size ≤ gb204)); have n6_ := Aside0.mk ((by rw [hg]; exact Nat.ne_of_lt (IsS63.lt (show IsS63 w _ g193 t200 t201 t202 t203 from by repeat (first | (with_reducible first | exact HI193.out | apply IsS63.alloc | apply IsS63.drewN | apply IsS63.drew | apply IsS63.set_0 | apply IsS63.set_1 | apply IsS63.set_2 | apply IsS63.set_3) | exact HI193.out))) : g193 ≠ gb204)); have n7_ := Aside0.mk ((by rw [hg]; exact Nat.ne_of_gt (IsS63.lt (show IsS63 w _ g193 t200 t201 t202 t203 from by repeat (first | (with_reducible first | exact HI193.out | apply IsS63.alloc | apply IsS63.drewN | apply IsS63.drew | apply IsS63.set_0 | apply IsS63.set_1 | apply IsS63.set_2 | apply IsS63.set_3) | exact HI193.out))) : gb204 ≠ g193)); clear HO_5; clear HI193; clear HB; have HO_5 := n0_; have HI193 := n1_; have HB := n2_; have BK204 := n3_; have GW204 := n4_; have GE204 := n5_; have NB193_204 := n6_; have NB204_193 := n7_; clear n0_ n1_ n2_ n3_ n4_ n5_ n6_ n7_; clear hb hbox hg; have hnb30 := NB204_193.out; have hnc30 := NB193_204.out; have hcz31_0 : w29.cell? ⟨gb204, 0, none⟩ = some (.int .i64 0) := (blk_cell BK204.out 0).trans rfl; have hcz31_1 : w29.cell? ⟨gb204, 1, none⟩ = some (.string (⟨#[]⟩ : ByteArray)) := (blk_cell BK204.out 1).trans rfl; have hcz31_2 : w29.cell? ⟨gb204, 2, none⟩ = some (.bool false) := (blk_cell BK204.out 2).trans rfl; have hfz31_0 := blk_frozen BK204.out 0; have hfz31_1 := blk_frozen BK204.out 1; have hfz31_2 := blk_frozen BK204.out 2) | (go_at_call 17; (with_reducible refine (block_Blocks_Open.calls g193 t200 t201 t202 t203 t205 t206 t207 t208 t209 w _ ?side1 ?side2 A26.out).mono ?_); (case side1 => repeat (first | (with_reducible first | exact HI193.out | apply IsS63.alloc | apply IsS63.drewN | apply IsS63.drew | apply IsS63.set_0 | apply IsS63.set_1 | apply IsS63.set_2 | apply IsS63.set_3 | refine IsS63.far ?_ NB193_204.out _ | apply IsS63.far (hne := NB193_204.out)) | exact HI193.out)); (case side2 => repeat (first | (with_reducible first | exact HB.out | apply below_alloc | apply pw_below_drewN | apply below_drew1 | refine below_set ?_ (IsS63.ge HI193.out) | refine below_set ?_ GE204.out) | exact HB.out)); rintro e w32 ⟨rfl, hi, hb, hk⟩; have n0_ := Aside0.mk (Kd.R_mono (Kd.R_keep (IsS63.apart (show IsS63 w _ g193 t200 t201 t202 t203 from by repeat (first | (with_reducible first | exact HI193.out | apply IsS63.alloc | apply IsS63.drewN | apply IsS63.drew | apply IsS63.set_0 | apply IsS63.set_1 | apply IsS63.set_2 | apply IsS63.set_3 | refine IsS63.far ?_ NB193_204.out _ | apply IsS63.far (hne := NB193_204.out)) | exact HI193.out)) (by (with_reducible repeat (first | apply Kd.R_alloc | apply Kd.R_drewN | apply Kd.R_drew)); exact (Kd.R_mono (Kd.R_far (p := ⟨gb204, 2, none⟩) (Kd.R_far (p := ⟨gb204, 1, none⟩) (Kd.R_far (p := ⟨gb204, 0, none⟩) (Kd.R_types HO_5.out BK204.out (by decide)) (fun _ hk => hk.2) (.int .i64 t195)) (fun _ hk => hk.2) (.string t196)) (fun _ hk => hk.2) (.bool t197)) (fun _ h_ => h_.1))) (by decide)) hk (fun _ h => h.2)) (fun _ h => h.1)); have n1_ := Aside0.mk (KeepBut.blk hk (g' := gb204) (o := .cells #[.int .i64 t195, .string t196, .bool t197] 41 (0, 0)) (by (with_reducible repeat (first | refine blk_drewN ?_ _ | refine blk_drew ?_ | refine blk_alloc ?_ _)); refine blk_put (cs := #[.int .i64 t195, .string t196, .bool false]) ?_ 2 _ rfl; (with_reducible repeat (first | refine blk_drewN ?_ _ | refine blk_drew ?_ | refine blk_alloc ?_ _)); refine blk_put (cs := #[.int .i64 t195, .string (⟨#[]⟩ : ByteArray), .bool false]) ?_ 1 _ rfl; (with_reducible repeat (first | refine blk_drewN ?_ _ | refine blk_drew ?_ | refine blk_alloc ?_ _)); refine blk_put (cs := #[.int .i64 0, .string (⟨#[]⟩ : ByteArray), .bool false]) ?_ 0 _ rfl; (with_reducible repeat (first | refine blk_drewN ?_ _ | refine blk_drew ?_ | refine blk_alloc ?_ _)); exact BK204.out) NB204_193.out (by simp)); have n2_ := Aside0.mk (hb); have n3_ := Aside0.mk (hi); clear HO_5; clear BK204; clear HB; clear HI193; have HO_5 := n0_; have BK204 := n1_; have HB := n2_; have HI193 := n3_; clear n0_ n1_ n2_ n3_; (try clear hb); (try clear hb2); (try clear hk); (try clear hi)))
                      go_ret
                      exact ⟨by first | rfl | (simp [errW_none, errW_some] <;> rfl) | (simp [*, errW_none, errW_some] <;> rfl), by repeat (first | (with_reducible first | exact HB.out | apply below_alloc | apply pw_below_drewN | apply below_drew1 | refine below_set ?_ (IsS63.ge HI193.out) | refine below_set ?_ GE204.out) | exact HB.out)⟩
                    · rw [if_neg c25] at H
                      have c25b0 : (t195 == a0 && (t196.toList == ([] : List UInt8) && (t197 == a1))) = false := by simpa using c25
                      have c25p : (t195 = a0 ∧ t196.toList = ([] : List UInt8) ∧ t197 = a1) = False := eq_false (fun h => by simp [h.1, h.2.1, h.2.2] at c25b0)
                      (try (have c25b1 : decide (t195 = a0 && (t196.toList == ([] : List UInt8) && (t197 == a1))) = false := by simpa using c25))
                      (try (have c25b2 : (t195 == a0 && (t196.toList == ([] : List UInt8) && (t197 == a1))) = false := by simpa using c25))
                      (try (have c25b3 : ¬ (t195 = a0 && (t196.toList == ([] : List UInt8) && (t197 == a1))) := by simpa using c25))
                      clear c25
                      obtain rfl := Option.some.inj H
                      obtain ⟨Ao33, co33, eo33⟩ := Kd.R_slice HO_5.out
                      subst eo33
                      have p194 : 0 ≤ (0 : Int) := (by omega)
                      have q194 : 0 < (t185.length : Int) := of_decide_eq_true (by first | (with_reducible assumption) | assumption)
                      obtain ⟨ad194, e194, hx194_0, hx194_1, hx194_2, hx194_3⟩ := at_T39 (Kd.R_reads' HO_5.out).2.2 0 p194 q194
                      cases e194
                      have qi194 : (0 < t185.length) = True := eq_true (by omega)
                      (try rw [show ((0 : Int)).toNat = 0 from rfl] at hx194_0)
                      (try rw [show 0 * 4 = 0 from rfl] at hx194_0)
                      (try rw [Addr.add_zero'] at hx194_0)
                      (try rw [show ((0 : Int)).toNat = 0 from rfl] at hx194_1)
                      (try rw [show 0 * 4 = 0 from rfl] at hx194_1)
                      (try rw [Addr.add_zero'] at hx194_1)
                      (try rw [show ((0 : Int)).toNat = 0 from rfl] at hx194_2)
                      (try rw [show 0 * 4 = 0 from rfl] at hx194_2)
                      (try rw [Addr.add_zero'] at hx194_2)
                      (try rw [show ((0 : Int)).toNat = 0 from rfl] at hx194_3)
                      (try rw [show 0 * 4 = 0 from rfl] at hx194_3)
                      (try rw [Addr.add_zero'] at hx194_3)
                      replace p194 := eq_true p194
                      replace q194 := eq_true q194
                      go_wp2_with (first | ((with_reducible refine gate_callee (f := 16) rfl ?_); refine goesL_ (some 45) rfl rfl Try.func16 (by kernel_rfl) rfl #[.pointer (some ⟨g193, 0, none⟩), .agg #[.int .i64 ((rd_T39 t185 0).f0), .int .i64 ((rd_T39 t185 0).f1), .int .i64 ((rd_T39 t185 0).f2), .string ((rd_T39 t185 0).f3)]] rfl (by (try simp only [List.map_toArray, List.map_cons, List.map_nil]); first | done | rfl | (simp only [List.length_drop, List.length_take]; rfl)) ?_; (with_reducible refine (block_Blocks_Take.calls kj12 g193 t189 t190 t191 t192 ((rd_T39 t185 0).f0) ((rd_T39 t185 0).f1) ((rd_T39 t185 0).f2) ((rd_T39 t185 0).f3) t195 t196 t197 true t199 t200 t201 t202 t203 w _ ?side1 ?side2 A22.out).mono ?_); (case side1 => repeat (first | (with_reducible first | exact HI193.out | apply IsS63.alloc | apply IsS63.drewN | apply IsS63.drew | apply IsS63.set_0 | apply IsS63.set_1 | apply IsS63.set_2 | apply IsS63.set_3) | exact HI193.out)); (case side2 => repeat (first | (with_reducible first | exact HB.out | apply below_alloc | apply pw_below_drewN | apply below_drew1 | refine below_set ?_ (IsS63.ge HI193.out)) | exact HB.out)); rintro e w34 ⟨rfl, hi, hb, hk⟩; refine ⟨_, rfl, ?_⟩; have n0_ := Aside0.mk (Kd.R_mono (Kd.R_keep (IsS63.apart (show IsS63 w _ g193 t189 t190 t191 t192 from by repeat (first | (with_reducible first | exact HI193.out | apply IsS63.alloc | apply IsS63.drewN | apply IsS63.drew | apply IsS63.set_0 | apply IsS63.set_1 | apply IsS63.set_2 | apply IsS63.set_3) | exact HI193.out)) (by (with_reducible repeat (first | apply Kd.R_alloc | apply Kd.R_drewN | apply Kd.R_drew)); exact HO_5.out) (by decide)) hk (fun _ h => h.2)) (fun _ h => h.1)); have n1_ := Aside0.mk (hb); have n2_ := Aside0.mk (hi); clear HO_5; clear HB; clear HI193; have HO_5 := n0_; have HB := n1_; have HI193 := n2_; clear n0_ n1_ n2_; (try clear hb); (try clear hb2); (try clear hk); (try clear hi)) | ((with_reducible refine gate_dst (N := 8) rfl ?_); (try (refine gate_guard (by rfl) ?_; dsimp only)); refine box_event ?hg (N := 8) ?hd (cs := #[.int .i64 0, .string (⟨#[]⟩ : ByteArray), .bool false]) (t := 41) ?hr ?_; (case hd => rfl); (case hg => rfl); (case hr => first | (go_simp; done) | (go_simp; rfl)); intro gb204 hg w35 hbox hb; have n0_ := Aside0.mk (Kd.R_below (by (with_reducible repeat (first | apply Kd.R_alloc | apply Kd.R_drewN | apply Kd.R_drew)); exact HO_5.out) hb); have n1_ := Aside0.mk (IsS63.below (by repeat (first | (with_reducible first | exact HI193.out | apply IsS63.alloc | apply IsS63.drewN | apply IsS63.drew | apply IsS63.set_0 | apply IsS63.set_1 | apply IsS63.set_2 | apply IsS63.set_3) | exact HI193.out)) hb); have n2_ := Aside0.mk (below_step (by repeat (first | (with_reducible first | exact HB.out | apply below_alloc | apply pw_below_drewN | apply below_drew1 | refine below_set ?_ (IsS63.ge HI193.out)) | exact HB.out)) hb); have n3_ := Aside0.mk (hbox); have n4_ := Aside0.mk ((by rw [hg]; exact (below_size (by repeat (first | (with_reducible first | exact HB.out | apply below_alloc | apply pw_below_drewN | apply below_drew1 | refine below_set ?_ (IsS63.ge HI193.out)) | exact HB.out))) : w.heap.size ≤ gb204)); have n5_ := Aside0.mk ((by rw [hg]; exact (below_size (by repeat (first | (with_reducible first | exact HB.out | apply below_alloc | apply pw_below_drewN | apply below_drew1 | refine below_set ?_ (IsS63.ge HI193.out)) | exact HB.out))) : w.heap.size ≤ gb204)); have n6_ := Aside0.mk ((by rw [hg]; exact Nat.ne_of_lt (IsS63.lt (show IsS63 w _ g193 t200 t201 t202 t203 from by repeat (first | (with_reducible first | exact HI193.out | apply IsS63.alloc | apply IsS63.drewN | apply IsS63.drew | apply IsS63.set_0 | apply IsS63.set_1 | apply IsS63.set_2 | apply IsS63.set_3) | exact HI193.out))) : g193 ≠ gb204)); have n7_ := Aside0.mk ((by rw [hg]; exact Nat.ne_of_gt (IsS63.lt (show IsS63 w _ g193 t200 t201 t202 t203 from by repeat (first | (with_reducible first | exact HI193.out | apply IsS63.alloc | apply IsS63.drewN | apply IsS63.drew | apply IsS63.set_0 | apply IsS63.set_1 | apply IsS63.set_2 | apply IsS63.set_3) | exact HI193.out))) : gb204 ≠ g193)); clear HO_5; clear HI193; clear HB; have HO_5 := n0_; have HI193 := n1_; have HB := n2_; have BK204 := n3_; have GW204 := n4_; have GE204 := n5_; have NB193_204 := n6_; have NB204_193 := n7_; clear n0_ n1_ n2_ n3_ n4_ n5_ n6_ n7_; clear hb hbox hg; have hnb36 := NB204_193.out; have hnc36 := NB193_204.out; have hcz37_0 : w35.cell? ⟨gb204, 0, none⟩ = some (.int .i64 0) := (blk_cell BK204.out 0).trans rfl; have hcz37_1 : w35.cell? ⟨gb204, 1, none⟩ = some (.string (⟨#[]⟩ : ByteArray)) := (blk_cell BK204.out 1).trans rfl; have hcz37_2 : w35.cell? ⟨gb204, 2, none⟩ = some (.bool false) := (blk_cell BK204.out 2).trans rfl; have hfz37_0 := blk_frozen BK204.out 0; have hfz37_1 := blk_frozen BK204.out 1; have hfz37_2 := blk_frozen BK204.out 2))
                      go_ret
                      exact ⟨by first | rfl | (simp [errW_none, errW_some] <;> rfl) | (simp [*, errW_none, errW_some] <;> rfl), by repeat (first | (with_reducible first | exact HB.out | apply below_alloc | apply pw_below_drewN | apply below_drew1 | refine below_set ?_ (IsS63.ge HI193.out) | refine below_set ?_ GE204.out) | exact HB.out)⟩
                  · rw [if_neg c24] at H
                    have c24b0 : (t199 == 0) = false := beq_eq_false_iff_ne.mpr c24
                    have c24b1 : (t199 != 0) = true := bne_iff_ne.mpr c24
                    obtain rfl := Option.some.inj H
                    obtain ⟨Ao38, co38, eo38⟩ := Kd.R_slice HO_5.out
                    subst eo38
                    have p194 : 0 ≤ (0 : Int) := (by omega)
                    have q194 : 0 < (t185.length : Int) := of_decide_eq_true (by first | (with_reducible assumption) | assumption)
                    obtain ⟨ad194, e194, hx194_0, hx194_1, hx194_2, hx194_3⟩ := at_T39 (Kd.R_reads' HO_5.out).2.2 0 p194 q194
                    cases e194
                    have qi194 : (0 < t185.length) = True := eq_true (by omega)
                    (try rw [show ((0 : Int)).toNat = 0 from rfl] at hx194_0)
                    (try rw [show 0 * 4 = 0 from rfl] at hx194_0)
                    (try rw [Addr.add_zero'] at hx194_0)
                    (try rw [show ((0 : Int)).toNat = 0 from rfl] at hx194_1)
                    (try rw [show 0 * 4 = 0 from rfl] at hx194_1)
                    (try rw [Addr.add_zero'] at hx194_1)
                    (try rw [show ((0 : Int)).toNat = 0 from rfl] at hx194_2)
                    (try rw [show 0 * 4 = 0 from rfl] at hx194_2)
                    (try rw [Addr.add_zero'] at hx194_2)
                    (try rw [show ((0 : Int)).toNat = 0 from rfl] at hx194_3)
                    (try rw [show 0 * 4 = 0 from rfl] at hx194_3)
                    (try rw [Addr.add_zero'] at hx194_3)
                    replace p194 := eq_true p194
                    replace q194 := eq_true q194
                    go_wp2_with (first | ((with_reducible refine gate_callee (f := 16) rfl ?_); refine goesL_ (some 45) rfl rfl Try.func16 (by kernel_rfl) rfl #[.pointer (some ⟨g193, 0, none⟩), .agg #[.int .i64 ((rd_T39 t185 0).f0), .int .i64 ((rd_T39 t185 0).f1), .int .i64 ((rd_T39 t185 0).f2), .string ((rd_T39 t185 0).f3)]] rfl (by (try simp only [List.map_toArray, List.map_cons, List.map_nil]); first | done | rfl | (simp only [List.length_drop, List.length_take]; rfl)) ?_; (with_reducible refine (block_Blocks_Take.calls kj12 g193 t189 t190 t191 t192 ((rd_T39 t185 0).f0) ((rd_T39 t185 0).f1) ((rd_T39 t185 0).f2) ((rd_T39 t185 0).f3) t195 t196 t197 true t199 t200 t201 t202 t203 w _ ?side1 ?side2 A22.out).mono ?_); (case side1 => repeat (first | (with_reducible first | exact HI193.out | apply IsS63.alloc | apply IsS63.drewN | apply IsS63.drew | apply IsS63.set_0 | apply IsS63.set_1 | apply IsS63.set_2 | apply IsS63.set_3) | exact HI193.out)); (case side2 => repeat (first | (with_reducible first | exact HB.out | apply below_alloc | apply pw_below_drewN | apply below_drew1 | refine below_set ?_ (IsS63.ge HI193.out)) | exact HB.out)); rintro e w39 ⟨rfl, hi, hb, hk⟩; refine ⟨_, rfl, ?_⟩; have n0_ := Aside0.mk (Kd.R_mono (Kd.R_keep (IsS63.apart (show IsS63 w _ g193 t189 t190 t191 t192 from by repeat (first | (with_reducible first | exact HI193.out | apply IsS63.alloc | apply IsS63.drewN | apply IsS63.drew | apply IsS63.set_0 | apply IsS63.set_1 | apply IsS63.set_2 | apply IsS63.set_3) | exact HI193.out)) (by (with_reducible repeat (first | apply Kd.R_alloc | apply Kd.R_drewN | apply Kd.R_drew)); exact HO_5.out) (by decide)) hk (fun _ h => h.2)) (fun _ h => h.1)); have n1_ := Aside0.mk (hb); have n2_ := Aside0.mk (hi); clear HO_5; clear HB; clear HI193; have HO_5 := n0_; have HB := n1_; have HI193 := n2_; clear n0_ n1_ n2_; (try clear hb); (try clear hb2); (try clear hk); (try clear hi)) | ((with_reducible refine gate_dst (N := 8) rfl ?_); (try (refine gate_guard (by rfl) ?_; dsimp only)); refine box_event ?hg (N := 8) ?hd (cs := #[.int .i64 0, .string (⟨#[]⟩ : ByteArray), .bool false]) (t := 41) ?hr ?_; (case hd => rfl); (case hg => rfl); (case hr => first | (go_simp; done) | (go_simp; rfl)); intro gb204 hg w40 hbox hb; have n0_ := Aside0.mk (Kd.R_below (by (with_reducible repeat (first | apply Kd.R_alloc | apply Kd.R_drewN | apply Kd.R_drew)); exact HO_5.out) hb); have n1_ := Aside0.mk (IsS63.below (by repeat (first | (with_reducible first | exact HI193.out | apply IsS63.alloc | apply IsS63.drewN | apply IsS63.drew | apply IsS63.set_0 | apply IsS63.set_1 | apply IsS63.set_2 | apply IsS63.set_3) | exact HI193.out)) hb); have n2_ := Aside0.mk (below_step (by repeat (first | (with_reducible first | exact HB.out | apply below_alloc | apply pw_below_drewN | apply below_drew1 | refine below_set ?_ (IsS63.ge HI193.out)) | exact HB.out)) hb); have n3_ := Aside0.mk (hbox); have n4_ := Aside0.mk ((by rw [hg]; exact (below_size (by repeat (first | (with_reducible first | exact HB.out | apply below_alloc | apply pw_below_drewN | apply below_drew1 | refine below_set ?_ (IsS63.ge HI193.out)) | exact HB.out))) : w.heap.size ≤ gb204)); have n5_ := Aside0.mk ((by rw [hg]; exact (below_size (by repeat (first | (with_reducible first | exact HB.out | apply below_alloc | apply pw_below_drewN | apply below_drew1 | refine below_set ?_ (IsS63.ge HI193.out)) | exact HB.out))) : w.heap.size ≤ gb204)); have n6_ := Aside0.mk ((by rw [hg]; exact Nat.ne_of_lt (IsS63.lt (show IsS63 w _ g193 t200 t201 t202 t203 from by repeat (first | (with_reducible first | exact HI193.out | apply IsS63.alloc | apply IsS63.drewN | apply IsS63.drew | apply IsS63.set_0 | apply IsS63.set_1 | apply IsS63.set_2 | apply IsS63.set_3) | exact HI193.out))) : g193 ≠ gb204)); have n7_ := Aside0.mk ((by rw [hg]; exact Nat.ne_of_gt (IsS63.lt (show IsS63 w _ g193 t200 t201 t202 t203 from by repeat (first | (with_reducible first | exact HI193.out | apply IsS63.alloc | apply IsS63.drewN | apply IsS63.drew | apply IsS63.set_0 | apply IsS63.set_1 | apply IsS63.set_2 | apply IsS63.set_3) | exact HI193.out))) : gb204 ≠ g193)); clear HO_5; clear HI193; clear HB; have HO_5 := n0_; have HI193 := n1_; have HB := n2_; have BK204 := n3_; have GW204 := n4_; have GE204 := n5_; have NB193_204 := n6_; have NB204_193 := n7_; clear n0_ n1_ n2_ n3_ n4_ n5_ n6_ n7_; clear hb hbox hg; have hnb41 := NB204_193.out; have hnc41 := NB193_204.out; have hcz42_0 : w40.cell? ⟨gb204, 0, none⟩ = some (.int .i64 0) := (blk_cell BK204.out 0).trans rfl; have hcz42_1 : w40.cell? ⟨gb204, 1, none⟩ = some (.string (⟨#[]⟩ : ByteArray)) := (blk_cell BK204.out 1).trans rfl; have hcz42_2 : w40.cell? ⟨gb204, 2, none⟩ = some (.bool false) := (blk_cell BK204.out 2).trans rfl; have hfz42_0 := blk_frozen BK204.out 0; have hfz42_1 := blk_frozen BK204.out 1; have hfz42_2 := blk_frozen BK204.out 2))
                    go_ret
                    exact ⟨by first | rfl | (simp [errW_none, errW_some] <;> rfl) | (simp [*, errW_none, errW_some] <;> rfl), by repeat (first | (with_reducible first | exact HB.out | apply below_alloc | apply pw_below_drewN | apply below_drew1 | refine below_set ?_ (IsS63.ge HI193.out) | refine below_set ?_ GE204.out) | exact HB.out)⟩
                · replace c23 := Bool.eq_false_iff.mpr c23
                  subst c23
                  have H1 : (some false) = some r := by rw [if_neg (show ¬ (false = true) by decide)] at H; exact H
                  clear H
                  have H := H1
                  clear H1
                  obtain rfl := Option.some.inj H
                  obtain ⟨Ao43, co43, eo43⟩ := Kd.R_slice HO_5.out
                  subst eo43
                  have p194 : 0 ≤ (0 : Int) := (by omega)
                  have q194 : 0 < (t185.length : Int) := of_decide_eq_true (by first | (with_reducible assumption) | assumption)
                  obtain ⟨ad194, e194, hx194_0, hx194_1, hx194_2, hx194_3⟩ := at_T39 (Kd.R_reads' HO_5.out).2.2 0 p194 q194
                  cases e194
                  have qi194 : (0 < t185.length) = True := eq_true (by omega)
                  (try rw [show ((0 : Int)).toNat = 0 from rfl] at hx194_0)
                  (try rw [show 0 * 4 = 0 from rfl] at hx194_0)
                  (try rw [Addr.add_zero'] at hx194_0)
                  (try rw [show ((0 : Int)).toNat = 0 from rfl] at hx194_1)
                  (try rw [show 0 * 4 = 0 from rfl] at hx194_1)
                  (try rw [Addr.add_zero'] at hx194_1)
                  (try rw [show ((0 : Int)).toNat = 0 from rfl] at hx194_2)
                  (try rw [show 0 * 4 = 0 from rfl] at hx194_2)
                  (try rw [Addr.add_zero'] at hx194_2)
                  (try rw [show ((0 : Int)).toNat = 0 from rfl] at hx194_3)
                  (try rw [show 0 * 4 = 0 from rfl] at hx194_3)
                  (try rw [Addr.add_zero'] at hx194_3)
                  replace p194 := eq_true p194
                  replace q194 := eq_true q194
                  go_wp2_with (first | ((with_reducible refine gate_callee (f := 16) rfl ?_); refine goesL_ (some 45) rfl rfl Try.func16 (by kernel_rfl) rfl #[.pointer (some ⟨g193, 0, none⟩), .agg #[.int .i64 ((rd_T39 t185 0).f0), .int .i64 ((rd_T39 t185 0).f1), .int .i64 ((rd_T39 t185 0).f2), .string ((rd_T39 t185 0).f3)]] rfl (by (try simp only [List.map_toArray, List.map_cons, List.map_nil]); first | done | rfl | (simp only [List.length_drop, List.length_take]; rfl)) ?_; (with_reducible refine (block_Blocks_Take.calls kj12 g193 t189 t190 t191 t192 ((rd_T39 t185 0).f0) ((rd_T39 t185 0).f1) ((rd_T39 t185 0).f2) ((rd_T39 t185 0).f3) t195 t196 t197 false t199 t200 t201 t202 t203 w _ ?side1 ?side2 A22.out).mono ?_); (case side1 => repeat (first | (with_reducible first | exact HI193.out | apply IsS63.alloc | apply IsS63.drewN | apply IsS63.drew | apply IsS63.set_0 | apply IsS63.set_1 | apply IsS63.set_2 | apply IsS63.set_3) | exact HI193.out)); (case side2 => repeat (first | (with_reducible first | exact HB.out | apply below_alloc | apply pw_below_drewN | apply below_drew1 | refine below_set ?_ (IsS63.ge HI193.out)) | exact HB.out)); rintro e w44 ⟨rfl, hi, hb, hk⟩; refine ⟨_, rfl, ?_⟩; have n0_ := Aside0.mk (Kd.R_mono (Kd.R_keep (IsS63.apart (show IsS63 w _ g193 t189 t190 t191 t192 from by repeat (first | (with_reducible first | exact HI193.out | apply IsS63.alloc | apply IsS63.drewN | apply IsS63.drew | apply IsS63.set_0 | apply IsS63.set_1 | apply IsS63.set_2 | apply IsS63.set_3) | exact HI193.out)) (by (with_reducible repeat (first | apply Kd.R_alloc | apply Kd.R_drewN | apply Kd.R_drew)); exact HO_5.out) (by decide)) hk (fun _ h => h.2)) (fun _ h => h.1)); have n1_ := Aside0.mk (hb); have n2_ := Aside0.mk (hi); clear HO_5; clear HB; clear HI193; have HO_5 := n0_; have HB := n1_; have HI193 := n2_; clear n0_ n1_ n2_; (try clear hb); (try clear hb2); (try clear hk); (try clear hi)) | ((with_reducible refine gate_dst (N := 8) rfl ?_); (try (refine gate_guard (by rfl) ?_; dsimp only)); refine box_event ?hg (N := 8) ?hd (cs := #[.int .i64 0, .string (⟨#[]⟩ : ByteArray), .bool false]) (t := 41) ?hr ?_; (case hd => rfl); (case hg => rfl); (case hr => first | (go_simp; done) | (go_simp; rfl)); intro gb204 hg w45 hbox hb; have n0_ := Aside0.mk (Kd.R_below (by (with_reducible repeat (first | apply Kd.R_alloc | apply Kd.R_drewN | apply Kd.R_drew)); exact HO_5.out) hb); have n1_ := Aside0.mk (IsS63.below (by repeat (first | (with_reducible first | exact HI193.out | apply IsS63.alloc | apply IsS63.drewN | apply IsS63.drew | apply IsS63.set_0 | apply IsS63.set_1 | apply IsS63.set_2 | apply IsS63.set_3) | exact HI193.out)) hb); have n2_ := Aside0.mk (below_step (by repeat (first | (with_reducible first | exact HB.out | apply below_alloc | apply pw_below_drewN | apply below_drew1 | refine below_set ?_ (IsS63.ge HI193.out)) | exact HB.out)) hb); have n3_ := Aside0.mk (hbox); have n4_ := Aside0.mk ((by rw [hg]; exact (below_size (by repeat (first | (with_reducible first | exact HB.out | apply below_alloc | apply pw_below_drewN | apply below_drew1 | refine below_set ?_ (IsS63.ge HI193.out)) | exact HB.out))) : w.heap.size ≤ gb204)); have n5_ := Aside0.mk ((by rw [hg]; exact (below_size (by repeat (first | (with_reducible first | exact HB.out | apply below_alloc | apply pw_below_drewN | apply below_drew1 | refine below_set ?_ (IsS63.ge HI193.out)) | exact HB.out))) : w.heap.size ≤ gb204)); have n6_ := Aside0.mk ((by rw [hg]; exact Nat.ne_of_lt (IsS63.lt (show IsS63 w _ g193 t200 t201 t202 t203 from by repeat (first | (with_reducible first | exact HI193.out | apply IsS63.alloc | apply IsS63.drewN | apply IsS63.drew | apply IsS63.set_0 | apply IsS63.set_1 | apply IsS63.set_2 | apply IsS63.set_3) | exact HI193.out))) : g193 ≠ gb204)); have n7_ := Aside0.mk ((by rw [hg]; exact Nat.ne_of_gt (IsS63.lt (show IsS63 w _ g193 t200 t201 t202 t203 from by repeat (first | (with_reducible first | exact HI193.out | apply IsS63.alloc | apply IsS63.drewN | apply IsS63.drew | apply IsS63.set_0 | apply IsS63.set_1 | apply IsS63.set_2 | apply IsS63.set_3) | exact HI193.out))) : gb204 ≠ g193)); clear HO_5; clear HI193; clear HB; have HO_5 := n0_; have HI193 := n1_; have HB := n2_; have BK204 := n3_; have GW204 := n4_; have GE204 := n5_; have NB193_204 := n6_; have NB204_193 := n7_; clear n0_ n1_ n2_ n3_ n4_ n5_ n6_ n7_; clear hb hbox hg; have hnb46 := NB204_193.out; have hnc46 := NB193_204.out; have hcz47_0 : w45.cell? ⟨gb204, 0, none⟩ = some (.int .i64 0) := (blk_cell BK204.out 0).trans rfl; have hcz47_1 : w45.cell? ⟨gb204, 1, none⟩ = some (.string (⟨#[]⟩ : ByteArray)) := (blk_cell BK204.out 1).trans rfl; have hcz47_2 : w45.cell? ⟨gb204, 2, none⟩ = some (.bool false) := (blk_cell BK204.out 2).trans rfl; have hfz47_0 := blk_frozen BK204.out 0; have hfz47_1 := blk_frozen BK204.out 1; have hfz47_2 := blk_frozen BK204.out 2))
                  go_ret
                  exact ⟨by first | rfl | (simp [errW_none, errW_some] <;> rfl) | (simp [*, errW_none, errW_some] <;> rfl), by repeat (first | (with_reducible first | exact HB.out | apply below_alloc | apply pw_below_drewN | apply below_drew1 | refine below_set ?_ (IsS63.ge HI193.out) | refine below_set ?_ GE204.out) | exact HB.out)⟩
              · rw [if_neg c21] at H
                exact absurd H (by simp)

/-- THE ONE PURE STATEMENT of bywashlaw11_BlockEmpty: yours. -/
def bywashlaw11_BlockEmpty.Pure : Prop := ∀ (a0 : Int) (a1 : Bool), (Lit.int .i64 a0).wf = true → ∃ k, bywashlaw11_BlockEmpty.f k a0 a1 = some true
theorem bywashlaw11_BlockEmpty.walk (P : bywashlaw11_BlockEmpty.Pure) (a0 : Int) (a1 : Bool) (w : World) (w0 : (Lit.int .i64 a0).wf = true) :
    Calls Try.prog 8 #[.int .i64 a0, .bool a1] w fun e w' => e = .returned (.bool true) ∧ Below w.heap.size w w' := by
  obtain ⟨k, h⟩ := P a0 a1 w0
  refine (bywashlaw11_BlockEmpty.calls k a0 a1 true w h).mono ?_
  rintro e w' ⟨rfl, hd⟩
  exact ⟨rfl, hd⟩

end Go.Proofs.Ytdonanibfifodaa.PBlockEmpty
