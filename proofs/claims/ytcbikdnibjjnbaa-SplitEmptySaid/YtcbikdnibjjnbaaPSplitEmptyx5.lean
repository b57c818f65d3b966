-- Written by a program of this session (the kit's printer, turned): the functions that the law reaches.
import Derived.Test.YtcbikdnibjjnbaaPSplitEmptyx0
import Derived.Test.YtcbikdnibjjnbaaPSplitEmptyx1
import Derived.Test.YtcbikdnibjjnbaaPSplitEmptyx2
import Derived.Test.YtcbikdnibjjnbaaPSplitEmptyx3
import Derived.Test.YtcbikdnibjjnbaaPSplitEmptyx4
namespace Go.Proofs.Ytcbikdnibjjnbaa.PSplitEmpty
open Go.RowKit Go.Proofs.YtcbikdnibjjnbaaW.PrintWords Go.Proofs.YtcbikdnibjjnbaaW.PrintLast Go.Proofs.YtcbikdnibjjnbaaW.PrintMore
attribute [local go_sem] max2_int min2_int max_two min_two max_three min_three max_four min_four   -- for this text's walks alone
set_option linter.unusedVariables false
set_option linter.unusedSimpArgs false

attribute [local go_sem high] eqA28
/-! ### bywashlaw8_SplitEmpty: function 7 -/
mutual
def bywashlaw8_SplitEmpty.j0 : Nat → Int → Bool → Option (Bool)
  | 0, _, _ => none
  | k + 1, x0, x24 => if x24 = true then ((bywashlaw8_alive.f k).bind fun t176 => (some t176)) else ((split_New.f 64).bind fun bt177 => ((split_Splitter_Feed.f bt177.1 bt177.2.1 bt177.2.2 (⟨#[]⟩ : ByteArray)).bind fun bt181 => (if bt181.1 = 0 then ((bywashref1_FramePut.f k 4 1 0 (⟨#[]⟩ : ByteArray)).bind fun bt186 => (bywashlaw8_SplitEmpty.l0 k x0 bt186.1 0 bt181.2.1 bt181.2.2.1 bt181.2.2.2 4 1 0 (⟨#[]⟩ : ByteArray))) else (some false))))
def bywashlaw8_SplitEmpty.l0 : Nat → Int → ByteArray → Int → ByteArray → Int → Bool → Int → Int → Int → ByteArray → Option (Bool)
  | 0, _, _, _, _, _, _, _, _, _, _ => none
  | k + 1, x0, x5, x7, x181000, x181001, x181002, x186000, x186001, x186002, x186003 => if x7 < x0 then ((split_Splitter_Feed.f x181000 x181001 x181002 x5).bind fun bt188 => (bywashlaw8_SplitEmpty.l0 k x0 x5 (wrap64 (x7 + 1)) bt188.2.1 bt188.2.2.1 bt188.2.2.2 x186000 x186001 x186002 x186003)) else (bywashlaw8_SplitEmpty.l1 k x0 0 x181000 x181001 x181002 x186000 x186001 x186002 x186003)
def bywashlaw8_SplitEmpty.l1 : Nat → Int → Int → ByteArray → Int → Bool → Int → Int → Int → ByteArray → Option (Bool)
  | 0, _, _, _, _, _, _, _, _, _ => none
  | k + 1, x0, x8, x181000, x181001, x181002, x186000, x186001, x186002, x186003 => if x8 < x0 then ((split_Splitter_Next.f k x181000 x181001 x181002).bind fun bt192 => (if bt192.2.2.2.2.1 = true then (if bt192.2.2.2.2.2.1 = 0 then (bywashlaw8_SplitEmpty.j3 k x0 x8 (!(bt192.1 == x186000) || (!(bt192.2.1 == x186001) || (!(bt192.2.2.1 == x186002) || (!(bt192.2.2.2.1.toList == x186003.toList))))) bt192.2.2.2.2.2.2.1 bt192.2.2.2.2.2.2.2.1 bt192.2.2.2.2.2.2.2.2 x186000 x186001 x186002 x186003) else (bywashlaw8_SplitEmpty.j3 k x0 x8 true bt192.2.2.2.2.2.2.1 bt192.2.2.2.2.2.2.2.1 bt192.2.2.2.2.2.2.2.2 x186000 x186001 x186002 x186003)) else (bywashlaw8_SplitEmpty.j3 k x0 x8 true bt192.2.2.2.2.2.2.1 bt192.2.2.2.2.2.2.2.1 bt192.2.2.2.2.2.2.2.2 x186000 x186001 x186002 x186003))) else ((split_Splitter_Next.f k x181000 x181001 x181002).bind fun bt202 => (if bt202.2.2.2.2.1 = true then (some false) else (if bt202.2.2.2.2.2.1 = 0 then ((split_Splitter_Held.f bt202.2.2.2.2.2.2.1 bt202.2.2.2.2.2.2.2.1 bt202.2.2.2.2.2.2.2.2).bind fun bt212 => (if bt212.1 = 0 then ((split_Splitter_Over.f bt212.2.1 bt212.2.2.1 bt212.2.2.2).bind fun bt216 => (some (!bt216.1))) else (some false))) else (some false))))
def bywashlaw8_SplitEmpty.j3 : Nat → Int → Int → Bool → ByteArray → Int → Bool → Int → Int → Int → ByteArray → Option (Bool)
  | 0, _, _, _, _, _, _, _, _, _, _ => none
  | k + 1, x0, x8, x69, x181000, x181001, x181002, x186000, x186001, x186002, x186003 => if x69 = true then (some false) else (bywashlaw8_SplitEmpty.l1 k x0 (wrap64 (x8 + 1)) x181000 x181001 x181002 x186000 x186001 x186002 x186003)
end
def bywashlaw8_SplitEmpty.f (k : Nat) (a0 : Int) : Option (Bool) := if a0 < 0 then (bywashlaw8_SplitEmpty.j0 k a0 true) else (if a0 > 40 then (bywashlaw8_SplitEmpty.j0 k a0 true) else ((bywashlaw8_alive.f k).bind fun t175 => (bywashlaw8_SplitEmpty.j0 k a0 (!t175))))
theorem bywashlaw8_SplitEmpty.mono_l : ∀ k, (∀ y0 y1, LeO (bywashlaw8_SplitEmpty.j0 k y0 y1) (bywashlaw8_SplitEmpty.j0 (k + 1) y0 y1)) ∧ (∀ y0 y1 y2 y3 y4 y5 y6 y7 y8 y9, LeO (bywashlaw8_SplitEmpty.l0 k y0 y1 y2 y3 y4 y5 y6 y7 y8 y9) (bywashlaw8_SplitEmpty.l0 (k + 1) y0 y1 y2 y3 y4 y5 y6 y7 y8 y9)) ∧ (∀ y0 y1 y2 y3 y4 y5 y6 y7 y8, LeO (bywashlaw8_SplitEmpty.l1 k y0 y1 y2 y3 y4 y5 y6 y7 y8) (bywashlaw8_SplitEmpty.l1 (k + 1) y0 y1 y2 y3 y4 y5 y6 y7 y8)) ∧ (∀ y0 y1 y2 y3 y4 y5 y6 y7 y8 y9, LeO (bywashlaw8_SplitEmpty.j3 k y0 y1 y2 y3 y4 y5 y6 y7 y8 y9) (bywashlaw8_SplitEmpty.j3 (k + 1) y0 y1 y2 y3 y4 y5 y6 y7 y8 y9))
  | 0 => ⟨fun _ _ r h => by simp [bywashlaw8_SplitEmpty.j0] at h, fun _ _ _ _ _ _ _ _ _ _ r h => by simp [bywashlaw8_SplitEmpty.l0] at h, fun _ _ _ _ _ _ _ _ _ r h => by simp [bywashlaw8_SplitEmpty.l1] at h, fun _ _ _ _ _ _ _ _ _ _ r h => by simp [bywashlaw8_SplitEmpty.j3] at h⟩
  | k + 1 => by
    obtain ⟨ih0, ih1, ih2, ih3⟩ := bywashlaw8_SplitEmpty.mono_l k
    refine ⟨?_, ?_, ?_, ?_⟩
    · intro y0 y1
      unfold bywashlaw8_SplitEmpty.j0
      repeat' first
      | (with_reducible exact ih0 _ _)
      | (with_reducible exact ih1 _ _ _ _ _ _ _ _ _ _)
      | (with_reducible exact ih2 _ _ _ _ _ _ _ _ _)
      | (with_reducible exact ih3 _ _ _ _ _ _ _ _ _ _)
      | (with_reducible exact bywashlaw8_alive.mono _)
      | (with_reducible exact bywashref1_FramePut.mono _ _ _ _ _)
      | (with_reducible exact split_Splitter_Next.mono _ _ _ _)
      | (with_reducible exact LeO.refl _)
      | (with_reducible exact LeO.none _)
      | (with_reducible refine LeO.ite ?_ ?_)
      | (with_reducible refine LeO.bind ?_ (fun _ => ?_))
      | exact ih0 _ _
      | exact ih1 _ _ _ _ _ _ _ _ _ _
      | exact ih2 _ _ _ _ _ _ _ _ _
      | exact ih3 _ _ _ _ _ _ _ _ _ _
      | exact bywashlaw8_alive.mono _
      | exact bywashref1_FramePut.mono _ _ _ _ _
      | exact split_Splitter_Next.mono _ _ _ _
      | exact LeO.none _
      | refine LeO.ite ?_ ?_
      | refine LeO.bind ?_ (fun _ => ?_)
    · intro y0 y1 y2 y3 y4 y5 y6 y7 y8 y9
      unfold bywashlaw8_SplitEmpty.l0
      repeat' first
      | (with_reducible exact ih0 _ _)
      | (with_reducible exact ih1 _ _ _ _ _ _ _ _ _ _)
      | (with_reducible exact ih2 _ _ _ _ _ _ _ _ _)
      | (with_reducible exact ih3 _ _ _ _ _ _ _ _ _ _)
      | (with_reducible exact bywashlaw8_alive.mono _)
      | (with_reducible exact bywashref1_FramePut.mono _ _ _ _ _)
      | (with_reducible exact split_Splitter_Next.mono _ _ _ _)
      | (with_reducible exact LeO.refl _)
      | (with_reducible exact LeO.none _)
      | (with_reducible refine LeO.ite ?_ ?_)
      | (with_reducible refine LeO.bind ?_ (fun _ => ?_))
      | exact ih0 _ _
      | exact ih1 _ _ _ _ _ _ _ _ _ _
      | exact ih2 _ _ _ _ _ _ _ _ _
      | exact ih3 _ _ _ _ _ _ _ _ _ _
      | exact bywashlaw8_alive.mono _
      | exact bywashref1_FramePut.mono _ _ _ _ _
      | exact split_Splitter_Next.mono _ _ _ _
      | exact LeO.none _
      | refine LeO.ite ?_ ?_
      | refine LeO.bind ?_ (fun _ => ?_)
    · intro y0 y1 y2 y3 y4 y5 y6 y7 y8
      unfold bywashlaw8_SplitEmpty.l1
      repeat' first
      | (with_reducible exact ih0 _ _)
      | (with_reducible exact ih1 _ _ _ _ _ _ _ _ _ _)
      | (with_reducible exact ih2 _ _ _ _ _ _ _ _ _)
      | (with_reducible exact ih3 _ _ _ _ _ _ _ _ _ _)
      | (with_reducible exact bywashlaw8_alive.mono _)
      | (with_reducible exact bywashref1_FramePut.mono _ _ _ _ _)
      | (with_reducible exact split_Splitter_Next.mono _ _ _ _)
      | (with_reducible exact LeO.refl _)
      | (with_reducible exact LeO.none _)
      | (with_reducible refine LeO.ite ?_ ?_)
      | (with_reducible refine LeO.bind ?_ (fun _ => ?_))
      | exact ih0 _ _
      | exact ih1 _ _ _ _ _ _ _ _ _ _
      | exact ih2 _ _ _ _ _ _ _ _ _
      | exact ih3 _ _ _ _ _ _ _ _ _ _
      | exact bywashlaw8_alive.mono _
      | exact bywashref1_FramePut.mono _ _ _ _ _
      | exact split_Splitter_Next.mono _ _ _ _
      | exact LeO.none _
      | refine LeO.ite ?_ ?_
      | refine LeO.bind ?_ (fun _ => ?_)
    · intro y0 y1 y2 y3 y4 y5 y6 y7 y8 y9
      unfold bywashlaw8_SplitEmpty.j3
      repeat' first
      | (with_reducible exact ih0 _ _)
      | (with_reducible exact ih1 _ _ _ _ _ _ _ _ _ _)
      | (with_reducible exact ih2 _ _ _ _ _ _ _ _ _)
      | (with_reducible exact ih3 _ _ _ _ _ _ _ _ _ _)
      | (with_reducible exact bywashlaw8_alive.mono _)
      | (with_reducible exact bywashref1_FramePut.mono _ _ _ _ _)
      | (with_reducible exact split_Splitter_Next.mono _ _ _ _)
      | (with_reducible exact LeO.refl _)
      | (with_reducible exact LeO.none _)
      | (with_reducible refine LeO.ite ?_ ?_)
      | (with_reducible refine LeO.bind ?_ (fun _ => ?_))
      | exact ih0 _ _
      | exact ih1 _ _ _ _ _ _ _ _ _ _
      | exact ih2 _ _ _ _ _ _ _ _ _
      | exact ih3 _ _ _ _ _ _ _ _ _ _
      | exact bywashlaw8_alive.mono _
      | exact bywashref1_FramePut.mono _ _ _ _ _
      | exact split_Splitter_Next.mono _ _ _ _
      | exact LeO.none _
      | refine LeO.ite ?_ ?_
      | refine LeO.bind ?_ (fun _ => ?_)
theorem bywashlaw8_SplitEmpty.mono : ∀ a0 k, LeO (bywashlaw8_SplitEmpty.f k a0) (bywashlaw8_SplitEmpty.f (k + 1) a0) := by
  intro a0 k
  obtain ⟨ih0, ih1, ih2, ih3⟩ := bywashlaw8_SplitEmpty.mono_l k
  unfold bywashlaw8_SplitEmpty.f
  repeat' first
      | (with_reducible exact ih0 _ _)
      | (with_reducible exact ih1 _ _ _ _ _ _ _ _ _ _)
      | (with_reducible exact ih2 _ _ _ _ _ _ _ _ _)
      | (with_reducible exact ih3 _ _ _ _ _ _ _ _ _ _)
      | (with_reducible exact bywashlaw8_alive.mono _)
      | (with_reducible exact bywashref1_FramePut.mono _ _ _ _ _)
      | (with_reducible exact split_Splitter_Next.mono _ _ _ _)
      | (with_reducible exact LeO.refl _)
      | (with_reducible exact LeO.none _)
      | (with_reducible refine LeO.ite ?_ ?_)
      | (with_reducible refine LeO.bind ?_ (fun _ => ?_))
      | exact ih0 _ _
      | exact ih1 _ _ _ _ _ _ _ _ _ _
      | exact ih2 _ _ _ _ _ _ _ _ _
      | exact ih3 _ _ _ _ _ _ _ _ _ _
      | exact bywashlaw8_alive.mono _
      | exact bywashref1_FramePut.mono _ _ _ _ _
      | exact split_Splitter_Next.mono _ _ _ _
      | exact LeO.none _
      | refine LeO.ite ?_ ?_
      | refine LeO.bind ?_ (fun _ => ?_)
set_option maxHeartbeats 8000000 in
set_option maxRecDepth 100000 in
theorem bywashlaw8_SplitEmpty.calls (k : Nat) (a0 : Int) (r : Bool) (w : World) (h : bywashlaw8_SplitEmpty.f k a0 = some r) :
    Calls Try.prog 7 #[.int .i64 a0] w fun e w' => e = .returned (.bool r) ∧ Below w.heap.size w w' := by
  have hu28 := Try.underlying28
  have HB := Aside0.mk (Below.refl w.heap.size w)
  have H : (if a0 < 0 then (bywashlaw8_SplitEmpty.j0 k a0 true) else (if a0 > 40 then (bywashlaw8_SplitEmpty.j0 k a0 true) else ((bywashlaw8_alive.f k).bind fun t175 => (bywashlaw8_SplitEmpty.j0 k a0 (!t175))))) = some r := h
  clear h
  have HC2 := Aside0.mk H
  clear H
  go_enter Try.func7, Try.ntmps7
  go_upto_region 1 with (fail)
  go_cut [24] (fun v24 wc => ∃ (kq : Nat) (x24_1 : Bool), v24 = .bool x24_1 ∧ Aside0 (bywashlaw8_SplitEmpty.j0 kq a0 x24_1 = some r) ∧ Aside0 (kq ≤ k) ∧ Aside0 (Below w.heap.size w wc))
  case first =>
    have H := HC2.out
    clear HC2
    by_cases c3 : a0 < 0
    · rw [if_pos c3] at H
      have c3b0 : decide (a0 < 0) = true := decide_eq_true c3
      clear c3
      (first | rw [c3b0] | (simp only [i64_w, i32_w]; rw [c3b0]) | skip)
      have H' := Aside0.mk H
      clear H
      go_wp2
      go_meet
      case rel => exact ⟨_, (true), (by first | rfl | (simp; done) | (simp [*]; done)), H', ⟨by first | omega | exact Nat.le_refl _⟩, ⟨by repeat (first | (with_reducible first | exact HB.out | apply below_alloc | apply pw_below_drewN | apply below_drew1) | exact HB.out)⟩⟩
    · rw [if_neg c3] at H
      have c3b0 : decide (a0 < 0) = false := decide_eq_false c3
      clear c3
      (first | rw [c3b0] | (simp only [i64_w, i32_w]; rw [c3b0]) | skip)
      by_cases c4 : a0 > 40
      · rw [if_pos c4] at H
        have c4b0 : decide (40 < a0) = true := decide_eq_true c4
        clear c4
        have H' := Aside0.mk H
        clear H
        go_wp2
        go_meet
        case rel => exact ⟨_, (true), (by first | rfl | (simp; done) | (simp [*]; done)), H', ⟨by first | omega | exact Nat.le_refl _⟩, ⟨by repeat (first | (with_reducible first | exact HB.out | apply below_alloc | apply pw_below_drewN | apply below_drew1) | exact HB.out)⟩⟩
      · rw [if_neg c4] at H
        have c4b0 : decide (40 < a0) = false := decide_eq_false c4
        clear c4
        replace H := Option.bind_eq_some_iff.mp H
        obtain ⟨t175, A50, H⟩ := H
        replace H : (bywashlaw8_SplitEmpty.j0 k a0 (!t175)) = some r := H
        have A5 := Aside0.mk A50
        clear A50
        have H' := Aside0.mk H
        clear H
        go_wp2_with (first | (go_at_call 9; (with_reducible refine (bywashlaw8_alive.calls k  t175 _ A5.out).mono ?_); rintro e w6 ⟨rfl, hb⟩; have n0_ := Aside0.mk (below_step (by repeat (first | (with_reducible first | exact HB.out | apply below_alloc | apply pw_below_drewN | apply below_drew1) | exact HB.out)) hb); clear HB; have HB := n0_; clear n0_; (try clear hb); (try clear hb2); (try clear hk); (try clear hi)))
        go_meet
        case rel => exact ⟨_, (!t175), (by first | rfl | (simp; done) | (simp [*]; done)), H', ⟨by first | omega | exact Nat.le_refl _⟩, ⟨by repeat (first | (with_reducible first | exact HB.out | apply below_alloc | apply pw_below_drewN | apply below_drew1) | exact HB.out)⟩⟩
  case rest =>
    clear HC2
    try clear p2
    try clear c3
    try clear c3b0
    try clear c4
    try clear c4b0
    obtain ⟨kq, x24_1, rfl, HA, HJ1, HB⟩ := hcut
    cases kq with
    | zero => exact absurd HA.out (by simp [bywashlaw8_SplitEmpty.j0])
    | succ kj1 =>
      have H := HA.out
      clear HA
      simp only [bywashlaw8_SplitEmpty.j0] at H
      by_cases c7 : x24_1 = true
      · subst c7
        have H1 : ((bywashlaw8_alive.f kj1).bind fun t176 => (some t176)) = some r := by rw [if_pos rfl] at H; exact H
        clear H
        have H := H1
        clear H1
        replace H := Option.bind_eq_some_iff.mp H
        obtain ⟨t176, A80, H⟩ := H
        replace H : (some t176) = some r := H
        have A8 := Aside0.mk A80
        clear A80
        obtain rfl := Option.some.inj H
        go_wp2_with (first | ((with_reducible refine gate_callee (f := 9) rfl ?_); refine goesL_ (some 25) rfl rfl Try.func9 (by kernel_rfl) rfl #[] rfl (by (try simp only [List.map_toArray, List.map_cons, List.map_nil]); first | done | rfl | (simp only [List.length_drop, List.length_take]; rfl)) ?_; (with_reducible refine (bywashlaw8_alive.calls kj1  t176 _ A8.out).mono ?_); rintro e w9 ⟨rfl, hb⟩; refine ⟨_, rfl, ?_⟩; have n0_ := Aside0.mk (below_step (by repeat (first | (with_reducible first | exact HB.out | apply below_alloc | apply pw_below_drewN | apply below_drew1) | exact HB.out)) hb); clear HB; have HB := n0_; clear n0_; (try clear hb); (try clear hb2); (try clear hk); (try clear hi)))
        go_ret
        exact ⟨by first | rfl | (simp [errW_none, errW_some] <;> rfl) | (simp [*, errW_none, errW_some] <;> rfl), by repeat (first | (with_reducible first | exact HB.out | apply below_alloc | apply pw_below_drewN | apply below_drew1) | exact HB.out)⟩
      · replace c7 := Bool.eq_false_iff.mpr c7
        subst c7
        have H1 : ((split_New.f 64).bind fun bt177 => ((split_Splitter_Feed.f bt177.1 bt177.2.1 bt177.2.2 (⟨#[]⟩ : ByteArray)).bind fun bt181 => (if bt181.1 = 0 then ((bywashref1_FramePut.f kj1 4 1 0 (⟨#[]⟩ : ByteArray)).bind fun bt186 => (bywashlaw8_SplitEmpty.l0 kj1 a0 bt186.1 0 bt181.2.1 bt181.2.2.1 bt181.2.2.2 4 1 0 (⟨#[]⟩ : ByteArray))) else (some false)))) = some r := by rw [if_neg (show ¬ (false = true) by decide)] at H; exact H
        clear H
        have H := H1
        clear H1
        replace H := Option.bind_eq_some_iff.mp H
        obtain ⟨⟨t177, t178, t179⟩, A100, H⟩ := H
        replace H : ((split_Splitter_Feed.f t177 t178 t179 (⟨#[]⟩ : ByteArray)).bind fun bt181 => (if bt181.1 = 0 then ((bywashref1_FramePut.f kj1 4 1 0 (⟨#[]⟩ : ByteArray)).bind fun bt186 => (bywashlaw8_SplitEmpty.l0 kj1 a0 bt186.1 0 bt181.2.1 bt181.2.2.1 bt181.2.2.2 4 1 0 (⟨#[]⟩ : ByteArray))) else (some false))) = some r := H
        have A10 := Aside0.mk A100
        clear A100
        replace H := Option.bind_eq_some_iff.mp H
        obtain ⟨⟨t181, t182, t183, t184⟩, A110, H⟩ := H
        replace H : (if t181 = 0 then ((bywashref1_FramePut.f kj1 4 1 0 (⟨#[]⟩ : ByteArray)).bind fun bt186 => (bywashlaw8_SplitEmpty.l0 kj1 a0 bt186.1 0 t182 t183 t184 4 1 0 (⟨#[]⟩ : ByteArray))) else (some false)) = some r := H
        have A11 := Aside0.mk A110
        clear A110
        by_cases c12 : t181 = 0
        · rw [if_pos c12] at H
          have c12b0 : (t181 == 0) = true := beq_iff_eq.mpr c12
          have c12b1 : (t181 != 0) = false := bne_eq_false_iff_eq.mpr c12
          clear c12
          replace H := Option.bind_eq_some_iff.mp H
          obtain ⟨⟨t186, t187⟩, A130, H⟩ := H
          replace H : (bywashlaw8_SplitEmpty.l0 kj1 a0 t186 0 t182 t183 t184 4 1 0 (⟨#[]⟩ : ByteArray)) = some r := H
          have A13 := Aside0.mk A130
          clear A130
          have H' := Aside0.mk H
          clear H
          go_wp2_with (first | ((with_reducible refine gate_callee (f := 10) rfl ?_); refine goesL_ (some 26) rfl rfl Try.func10 (by kernel_rfl) rfl #[.int .i64 64] rfl (by (try simp only [List.map_toArray, List.map_cons, List.map_nil]); first | done | rfl | (simp only [List.length_drop, List.length_take]; rfl)) ?_; (with_reducible refine (split_New.calls 64 t177 t178 t179 w _ ?side1 A10.out).mono ?_); (case side1 => repeat (first | (with_reducible first | exact HB.out | apply below_alloc | apply pw_below_drewN | apply below_drew1) | exact HB.out)); rintro e w14 ⟨g180, rfl, hi, hb, hb2⟩; refine ⟨_, rfl, ?_⟩; have n0_ := Aside0.mk (hb); have n1_ := Aside0.mk (hi); clear HB; have HB := n0_; have HI180 := n1_; clear n0_ n1_; (try clear hb); (try clear hb2); (try clear hk); (try clear hi)) | (go_at_call 12; (with_reducible refine (split_Splitter_Feed.calls g180 t177 t178 t179 (⟨#[]⟩ : ByteArray) t181 t182 t183 t184 w _ ?side1 ?side2 A11.out).mono ?_); (case side1 => repeat (first | (with_reducible first | exact HI180.out | apply IsS49.alloc | apply IsS49.drewN | apply IsS49.drew | apply IsS49.set_0 | apply IsS49.set_1 | apply IsS49.set_2) | exact HI180.out)); (case side2 => repeat (first | (with_reducible first | exact HB.out | apply below_alloc | apply pw_below_drewN | apply below_drew1 | refine below_set ?_ (IsS49.ge HI180.out)) | exact HB.out)); rintro e w15 ⟨rfl, hi, hb, hk⟩; have n0_ := Aside0.mk (hb); have n1_ := Aside0.mk (hi); clear HB; clear HI180; have HB := n0_; have HI180 := n1_; clear n0_ n1_; (try clear hb); (try clear hb2); (try clear hk); (try clear hi)) | ((with_reducible refine gate_dst (N := 4) rfl ?_); refine box_event ?hg (N := 4) ?hd (cs := #[.int .i64 0, .int .i64 0, .int .i64 0, .string (⟨#[]⟩ : ByteArray)]) (t := 28) ?hr ?_; (case hd => rfl); (case hg => rfl); (case hr => first | (go_simp; done) | (go_simp; rfl)); intro gb185 hg w16 hbox hb; have n0_ := Aside0.mk (IsS49.below (by repeat (first | (with_reducible first | exact HI180.out | apply IsS49.alloc | apply IsS49.drewN | apply IsS49.drew | apply IsS49.set_0 | apply IsS49.set_1 | apply IsS49.set_2) | exact HI180.out)) hb); have n1_ := Aside0.mk (below_step (by repeat (first | (with_reducible first | exact HB.out | apply below_alloc | apply pw_below_drewN | apply below_drew1 | refine below_set ?_ (IsS49.ge HI180.out)) | exact HB.out)) hb); have n2_ := Aside0.mk (hbox); have n3_ := Aside0.mk ((by rw [hg]; exact (below_size (by repeat (first | (with_reducible first | exact HB.out | apply below_alloc | apply pw_below_drewN | apply below_drew1 | refine below_set ?_ (IsS49.ge HI180.out)) | exact HB.out))) : w.heap.size ≤ gb185)); have n4_ := Aside0.mk ((by rw [hg]; exact (below_size (by repeat (first | (with_reducible first | exact HB.out | apply below_alloc | apply pw_below_drewN | apply below_drew1 | refine below_set ?_ (IsS49.ge HI180.out)) | exact HB.out))) : w.heap.size ≤ gb185)); have n5_ := Aside0.mk ((by rw [hg]; exact Nat.ne_of_lt (IsS49.lt (show IsS49 w _ g180 t182 t183 t184 from by repeat (first | (with_reducible first | exact HI180.out | apply IsS49.alloc | apply IsS49.drewN | apply IsS49.drew | apply IsS49.set_0 | apply IsS49.set_1 | apply IsS49.set_2) | exact HI180.out))) : g180 ≠ gb185)); have n6_ := Aside0.mk ((by rw [hg]; exact Nat.ne_of_gt (IsS49.lt (show IsS49 w _ g180 t182 t183 t184 from by repeat (first | (with_reducible first | exact HI180.out | apply IsS49.alloc | apply IsS49.drewN | apply IsS49.drew | apply IsS49.set_0 | apply IsS49.set_1 | apply IsS49.set_2) | exact HI180.out))) : gb185 ≠ g180)); clear HI180; clear HB; have HI180 := n0_; have HB := n1_; have BK185 := n2_; have GW185 := n3_; have GE185 := n4_; have NB180_185 := n5_; have NB185_180 := n6_; clear n0_ n1_ n2_ n3_ n4_ n5_ n6_; clear hb hbox hg; have hnb17 := NB185_180.out; have hnc17 := NB180_185.out; have hcz18_0 : w16.cell? ⟨gb185, 0, none⟩ = some (.int .i64 0) := (blk_cell BK185.out 0).trans rfl; have hcz18_1 : w16.cell? ⟨gb185, 1, none⟩ = some (.int .i64 0) := (blk_cell BK185.out 1).trans rfl; have hcz18_2 : w16.cell? ⟨gb185, 2, none⟩ = some (.int .i64 0) := (blk_cell BK185.out 2).trans rfl; have hcz18_3 : w16.cell? ⟨gb185, 3, none⟩ = some (.string (⟨#[]⟩ : ByteArray)) := (blk_cell BK185.out 3).trans rfl; have hfz18_0 := blk_frozen BK185.out 0; have hfz18_1 := blk_frozen BK185.out 1; have hfz18_2 := blk_frozen BK185.out 2; have hfz18_3 := blk_frozen BK185.out 3) | ((with_reducible refine gate_callee (f := 16) rfl ?_); refine goesL_ (some 37) rfl rfl Try.func16 (by kernel_rfl) rfl #[.agg #[.int .i64 4, .int .i64 1, .int .i64 0, .string (⟨#[]⟩ : ByteArray)]] rfl (by (try simp only [List.map_toArray, List.map_cons, List.map_nil]); first | done | rfl | (simp only [List.length_drop, List.length_take]; rfl)) ?_; (with_reducible refine (bywashref1_FramePut.calls kj1 4 1 0 (⟨#[]⟩ : ByteArray) t186 t187 _ A13.out).mono ?_); rintro e w19 ⟨rfl, hb⟩; refine ⟨_, rfl, ?_⟩; have n0_ := Aside0.mk (IsS49.below (show IsS49 w ((((w16.setCell ⟨gb185, 0, none⟩ (.int .i64 4)).setCell ⟨gb185, 1, none⟩ (.int .i64 1)).setCell ⟨gb185, 2, none⟩ (.int .i64 0)).setCell ⟨gb185, 3, none⟩ (.string (⟨#[]⟩ : ByteArray))) g180 t182 t183 t184 from by repeat (first | (with_reducible first | exact HI180.out | apply IsS49.alloc | apply IsS49.drewN | apply IsS49.drew | apply IsS49.set_0 | apply IsS49.set_1 | apply IsS49.set_2 | refine IsS49.far ?_ NB180_185.out _) | exact HI180.out)) hb); have n1_ := Aside0.mk (blk_below (g := gb185) (o := .cells #[.int .i64 4, .int .i64 1, .int .i64 0, .string (⟨#[]⟩ : ByteArray)] 28 (0, 0)) (by (with_reducible repeat (first | refine blk_drewN ?_ _ | refine blk_drew ?_ | refine blk_alloc ?_ _)); refine blk_put (cs := #[.int .i64 4, .int .i64 1, .int .i64 0, .string (⟨#[]⟩ : ByteArray)]) ?_ 3 _ rfl; (with_reducible repeat (first | refine blk_drewN ?_ _ | refine blk_drew ?_ | refine blk_alloc ?_ _)); refine blk_put (cs := #[.int .i64 4, .int .i64 1, .int .i64 0, .string (⟨#[]⟩ : ByteArray)]) ?_ 2 _ rfl; (with_reducible repeat (first | refine blk_drewN ?_ _ | refine blk_drew ?_ | refine blk_alloc ?_ _)); refine blk_put (cs := #[.int .i64 4, .int .i64 0, .int .i64 0, .string (⟨#[]⟩ : ByteArray)]) ?_ 1 _ rfl; (with_reducible repeat (first | refine blk_drewN ?_ _ | refine blk_drew ?_ | refine blk_alloc ?_ _)); refine blk_put (cs := #[.int .i64 0, .int .i64 0, .int .i64 0, .string (⟨#[]⟩ : ByteArray)]) ?_ 0 _ rfl; (with_reducible repeat (first | refine blk_drewN ?_ _ | refine blk_drew ?_ | refine blk_alloc ?_ _)); exact BK185.out) hb); have n2_ := Aside0.mk (below_step (by repeat (first | (with_reducible first | exact HB.out | apply below_alloc | apply pw_below_drewN | apply below_drew1 | refine below_set ?_ (IsS49.ge HI180.out) | refine below_set ?_ GE185.out) | exact HB.out)) hb); clear HI180; clear BK185; clear HB; have HI180 := n0_; have BK185 := n1_; have HB := n2_; clear n0_ n1_ n2_; (try clear hb); (try clear hb2); (try clear hk); (try clear hi)))
          go_loopg [7] kj1 (fun kq v7 w' => ∃ (x7_2 : Int) (x181000_2 : ByteArray) (x181001_2 : Int) (x181002_2 : Bool), v7 = .int .i64 x7_2 ∧ Aside0 (bywashlaw8_SplitEmpty.l0 kq a0 t186 x7_2 x181000_2 x181001_2 x181002_2 4 1 0 (⟨#[]⟩ : ByteArray) = some r) ∧ Aside0 (kq ≤ kj1) ∧ Aside0 (w'.heap[gb185]? = some (.cells #[.int .i64 4, .int .i64 1, .int .i64 0, .string (⟨#[]⟩ : ByteArray)] 28 (0, 0))) ∧ Aside0 (IsS49 w w' g180 x181000_2 x181001_2 x181002_2) ∧ Aside0 (Below w.heap.size w w'))
          case atStart => exact ⟨(0), (t182), (t183), (t184), (by first | rfl | (simp; done) | (simp [*]; done)), H', ⟨Nat.le_refl _⟩, ⟨by (with_reducible repeat (first | refine blk_drewN ?_ _ | refine blk_drew ?_ | refine blk_alloc ?_ _)); exact BK185.out⟩, ⟨by repeat (first | (with_reducible first | exact HI180.out | apply IsS49.alloc | apply IsS49.drewN | apply IsS49.drew | apply IsS49.set_0 | apply IsS49.set_1 | apply IsS49.set_2 | refine IsS49.far ?_ NB180_185.out _) | exact HI180.out)⟩, ⟨by repeat (first | (with_reducible first | exact HB.out | apply below_alloc | apply pw_below_drewN | apply below_drew1 | refine below_set ?_ (IsS49.ge HI180.out) | refine below_set ?_ GE185.out) | exact HB.out)⟩⟩
          case round =>
            clear H'
            try clear c1
            try clear p2
            try clear c3
            try clear c3b0
            try clear c4
            try clear c4b0
            try clear c7
            try clear c9
            try clear c10
            try clear c12
            try clear c12b0
            try clear c12b1
            try clear c16
            try clear c17
            try clear hcz18_0
            try clear hcz18_1
            try clear hcz18_2
            try clear hcz18_3
            try clear hfz18_0
            try clear hfz18_1
            try clear hfz18_2
            try clear hfz18_3
            try clear p2
            obtain ⟨x7_2, x181000_2, x181001_2, x181002_2, rfl, HA, HK2, BK185, HI180, HB⟩ := hrel
            cases gk with
            | zero => exact absurd HA.out (by simp [bywashlaw8_SplitEmpty.l0])
            | succ k2 =>
              have H := HA.out
              clear HA
              simp only [bywashlaw8_SplitEmpty.l0] at H
              by_cases c20 : x7_2 < a0
              · rw [if_pos c20] at H
                have c20b0 : decide (x7_2 < a0) = true := decide_eq_true c20
                clear c20
                replace H := Option.bind_eq_some_iff.mp H
                obtain ⟨⟨t188, t189, t190, t191⟩, A210, H⟩ := H
                replace H : (bywashlaw8_SplitEmpty.l0 k2 a0 t186 (wrap64 (x7_2 + 1)) t189 t190 t191 4 1 0 (⟨#[]⟩ : ByteArray)) = some r := H
                have A21 := Aside0.mk A210
                clear A210
                have H' := Aside0.mk H
                clear H
                go_wp2_with (first | ((with_reducible refine gate_callee (f := 12) rfl ?_); refine goesL_ (some 47) rfl rfl Try.func12 (by kernel_rfl) rfl #[.pointer (some ⟨g180, 0, none⟩), .string t186] rfl (by (try simp only [List.map_toArray, List.map_cons, List.map_nil]); first | done | rfl | (simp only [List.length_drop, List.length_take]; rfl)) ?_; (with_reducible refine (split_Splitter_Feed.calls g180 x181000_2 x181001_2 x181002_2 t186 t188 t189 t190 t191 w _ ?side1 ?side2 A21.out).mono ?_); (case side1 => repeat (first | (with_reducible first | exact HI180.out | apply IsS49.alloc | apply IsS49.drewN | apply IsS49.drew | apply IsS49.set_0 | apply IsS49.set_1 | apply IsS49.set_2 | refine IsS49.far ?_ NB180_185.out _) | exact HI180.out)); (case side2 => repeat (first | (with_reducible first | exact HB.out | apply below_alloc | apply pw_below_drewN | apply below_drew1 | refine below_set ?_ (IsS49.ge HI180.out) | refine below_set ?_ GE185.out) | exact HB.out)); rintro e w22 ⟨rfl, hi, hb, hk⟩; refine ⟨_, rfl, ?_⟩; have n0_ := Aside0.mk (KeepBut.blk hk (g' := gb185) (o := .cells #[.int .i64 4, .int .i64 1, .int .i64 0, .string (⟨#[]⟩ : ByteArray)] 28 (0, 0)) (by (with_reducible repeat (first | refine blk_drewN ?_ _ | refine blk_drew ?_ | refine blk_alloc ?_ _)); exact BK185.out) NB185_180.out (by simp)); have n1_ := Aside0.mk (hb); have n2_ := Aside0.mk (hi); clear BK185; clear HB; clear HI180; have BK185 := n0_; have HB := n1_; have HI180 := n2_; clear n0_ n1_ n2_; (try clear hb); (try clear hb2); (try clear hk); (try clear hi)))
                go_roundg k2
                case measure => have := HJ1.out; have := HK2.out; omega
                case rel => exact ⟨(wrap64 (x7_2 + 1)), (t189), (t190), (t191), (by first | rfl | (simp; done) | (simp [*]; done)), H', ⟨by have := HJ1.out; have := HK2.out; omega⟩, ⟨by (with_reducible repeat (first | refine blk_drewN ?_ _ | refine blk_drew ?_ | refine blk_alloc ?_ _)); exact BK185.out⟩, ⟨by repeat (first | (with_reducible first | exact HI180.out | apply IsS49.alloc | apply IsS49.drewN | apply IsS49.drew | apply IsS49.set_0 | apply IsS49.set_1 | apply IsS49.set_2 | refine IsS49.far ?_ NB180_185.out _) | exact HI180.out)⟩, ⟨by repeat (first | (with_reducible first | exact HB.out | apply below_alloc | apply pw_below_drewN | apply below_drew1 | refine below_set ?_ (IsS49.ge HI180.out) | refine below_set ?_ GE185.out) | exact HB.out)⟩⟩
              · rw [if_neg c20] at H
                have c20b0 : decide (x7_2 < a0) = false := decide_eq_false c20
                clear c20
                have H' := Aside0.mk H
                clear H
                go_wp2
                go_loopg [8] k2 (fun kq v8 w' => ∃ (x8_3 : Int) (x181000_3 : ByteArray) (x181001_3 : Int) (x181002_3 : Bool), v8 = .int .i64 x8_3 ∧ Aside0 (bywashlaw8_SplitEmpty.l1 kq a0 x8_3 x181000_3 x181001_3 x181002_3 4 1 0 (⟨#[]⟩ : ByteArray) = some r) ∧ Aside0 (kq ≤ k2) ∧ Aside0 (w'.heap[gb185]? = some (.cells #[.int .i64 4, .int .i64 1, .int .i64 0, .string (⟨#[]⟩ : ByteArray)] 28 (0, 0))) ∧ Aside0 (IsS49 w w' g180 x181000_3 x181001_3 x181002_3) ∧ Aside0 (Below w.heap.size w w'))
                case atStart => exact ⟨(0), (x181000_2), (x181001_2), (x181002_2), (by first | rfl | (simp; done) | (simp [*]; done)), H', ⟨Nat.le_refl _⟩, ⟨by (with_reducible repeat (first | refine blk_drewN ?_ _ | refine blk_drew ?_ | refine blk_alloc ?_ _)); exact BK185.out⟩, ⟨by repeat (first | (with_reducible first | exact HI180.out | apply IsS49.alloc | apply IsS49.drewN | apply IsS49.drew | apply IsS49.set_0 | apply IsS49.set_1 | apply IsS49.set_2 | refine IsS49.far ?_ NB180_185.out _) | exact HI180.out)⟩, ⟨by repeat (first | (with_reducible first | exact HB.out | apply below_alloc | apply pw_below_drewN | apply below_drew1 | refine below_set ?_ (IsS49.ge HI180.out) | refine below_set ?_ GE185.out) | exact HB.out)⟩⟩
                case round =>
                  clear H'
                  try clear c1
                  try clear c2
                  try clear p2
                  try clear c3
                  try clear c3b0
                  try clear c4
                  try clear c4b0
                  try clear p6
                  try clear c7
                  try clear c9
                  try clear c10
                  try clear c12
                  try clear c12b0
                  try clear c12b1
                  try clear c16
                  try clear c17
                  try clear c20
                  try clear c20b0
                  try clear hcz18_0
                  try clear hcz18_1
                  try clear hcz18_2
                  try clear hcz18_3
                  try clear hfz18_0
                  try clear hfz18_1
                  try clear hfz18_2
                  try clear hfz18_3
                  try clear p2
                  obtain ⟨x8_3, x181000_3, x181001_3, x181002_3, rfl, HA, HK3, BK185, HI180, HB⟩ := hrel
                  cases gk with
                  | zero => exact absurd HA.out (by simp [bywashlaw8_SplitEmpty.l1])
                  | succ k3 =>
                    have H := HA.out
                    clear HA
                    simp only [bywashlaw8_SplitEmpty.l1] at H
                    by_cases c23 : x8_3 < a0
                    · rw [if_pos c23] at H
                      have c23b0 : decide (x8_3 < a0) = true := decide_eq_true c23
                      clear c23
                      replace H := Option.bind_eq_some_iff.mp H
                      obtain ⟨⟨t192, t193, t194, t195, t196, t197, t198, t199, t200⟩, A240, H⟩ := H
                      replace H : (if t196 = true then (if t197 = 0 then (bywashlaw8_SplitEmpty.j3 k3 a0 x8_3 (!(t192 == 4) || (!(t193 == 1) || (!(t194 == 0) || (!(t195.toList == (⟨#[]⟩ : ByteArray).toList))))) t198 t199 t200 4 1 0 (⟨#[]⟩ : ByteArray)) else (bywashlaw8_SplitEmpty.j3 k3 a0 x8_3 true t198 t199 t200 4 1 0 (⟨#[]⟩ : ByteArray))) else (bywashlaw8_SplitEmpty.j3 k3 a0 x8_3 true t198 t199 t200 4 1 0 (⟨#[]⟩ : ByteArray))) = some r := H
                      have A24 := Aside0.mk A240
                      clear A240
                      have HC25 := Aside0.mk H
                      clear H
                      go_upto_region 16 with (first | ((with_reducible refine gate_callee (f := 11) rfl ?_); refine goesL_ (some 55) rfl rfl Try.func11 (by kernel_rfl) rfl #[.pointer (some ⟨g180, 0, none⟩)] rfl (by (try simp only [List.map_toArray, List.map_cons, List.map_nil]); first | done | rfl | (simp only [List.length_drop, List.length_take]; rfl)) ?_; (with_reducible refine (split_Splitter_Next.calls k3 g180 x181000_3 x181001_3 x181002_3 t192 t193 t194 t195 t196 t197 t198 t199 t200 w _ ?side1 ?side2 A24.out).mono ?_); (case side1 => repeat (first | (with_reducible first | exact HI180.out | apply IsS49.alloc | apply IsS49.drewN | apply IsS49.drew | apply IsS49.set_0 | apply IsS49.set_1 | apply IsS49.set_2 | refine IsS49.far ?_ NB180_185.out _) | exact HI180.out)); (case side2 => repeat (first | (with_reducible first | exact HB.out | apply below_alloc | apply pw_below_drewN | apply below_drew1 | refine below_set ?_ (IsS49.ge HI180.out) | refine below_set ?_ GE185.out) | exact HB.out)); rintro e w26 ⟨rfl, hi, hb, hk⟩; refine ⟨_, rfl, ?_⟩; have n0_ := Aside0.mk (KeepBut.blk hk (g' := gb185) (o := .cells #[.int .i64 4, .int .i64 1, .int .i64 0, .string (⟨#[]⟩ : ByteArray)] 28 (0, 0)) (by (with_reducible repeat (first | refine blk_drewN ?_ _ | refine blk_drew ?_ | refine blk_alloc ?_ _)); exact BK185.out) NB185_180.out (by simp)); have n1_ := Aside0.mk (hb); have n2_ := Aside0.mk (hi); clear BK185; clear HB; clear HI180; have BK185 := n0_; have HB := n1_; have HI180 := n2_; clear n0_ n1_ n2_; (try clear hb); (try clear hb2); (try clear hk); (try clear hi)) | ((with_reducible refine gate_dst (N := 9) rfl ?_); refine box_event ?hg (N := 9) ?hd (cs := #[.int .i64 0, .int .i64 0, .int .i64 0, .string (⟨#[]⟩ : ByteArray)]) (t := 28) ?hr ?_; (case hd => rfl); (case hg => rfl); (case hr => first | (go_simp; done) | (go_simp; rfl)); intro gb201 hg w27 hbox hb; have n0_ := Aside0.mk (blk_below (g := gb185) (o := .cells #[.int .i64 4, .int .i64 1, .int .i64 0, .string (⟨#[]⟩ : ByteArray)] 28 (0, 0)) (by (with_reducible repeat (first | refine blk_drewN ?_ _ | refine blk_drew ?_ | refine blk_alloc ?_ _)); exact BK185.out) hb); have n1_ := Aside0.mk (IsS49.below (by repeat (first | (with_reducible first | exact HI180.out | apply IsS49.alloc | apply IsS49.drewN | apply IsS49.drew | apply IsS49.set_0 | apply IsS49.set_1 | apply IsS49.set_2 | refine IsS49.far ?_ NB180_185.out _) | exact HI180.out)) hb); have n2_ := Aside0.mk (below_step (by repeat (first | (with_reducible first | exact HB.out | apply below_alloc | apply pw_below_drewN | apply below_drew1 | refine below_set ?_ (IsS49.ge HI180.out) | refine below_set ?_ GE185.out) | exact HB.out)) hb); have n3_ := Aside0.mk (hbox); have n4_ := Aside0.mk ((by rw [hg]; exact (below_size (by repeat (first | (with_reducible first | exact HB.out | apply below_alloc | apply pw_below_drewN | apply below_drew1 | refine below_set ?_ (IsS49.ge HI180.out) | refine below_set ?_ GE185.out) | exact HB.out))) : w.heap.size ≤ gb201)); have n5_ := Aside0.mk ((by rw [hg]; exact (below_size (by repeat (first | (with_reducible first | exact HB.out | apply below_alloc | apply pw_below_drewN | apply below_drew1 | refine below_set ?_ (IsS49.ge HI180.out) | refine below_set ?_ GE185.out) | exact HB.out))) : w.heap.size ≤ gb201)); have n6_ := Aside0.mk ((by rw [hg]; exact Nat.ne_of_lt (blk_lt (g := gb185) (o := .cells #[.int .i64 4, .int .i64 1, .int .i64 0, .string (⟨#[]⟩ : ByteArray)] 28 (0, 0)) (by (with_reducible repeat (first | refine blk_drewN ?_ _ | refine blk_drew ?_ | refine blk_alloc ?_ _)); exact BK185.out)) : gb185 ≠ gb201)); have n7_ := Aside0.mk ((by rw [hg]; exact Nat.ne_of_gt (blk_lt (g := gb185) (o := .cells #[.int .i64 4, .int .i64 1, .int .i64 0, .string (⟨#[]⟩ : ByteArray)] 28 (0, 0)) (by (with_reducible repeat (first | refine blk_drewN ?_ _ | refine blk_drew ?_ | refine blk_alloc ?_ _)); exact BK185.out)) : gb201 ≠ gb185)); have n8_ := Aside0.mk ((by rw [hg]; exact Nat.ne_of_lt (IsS49.lt (show IsS49 w _ g180 t198 t199 t200 from by repeat (first | (with_reducible first | exact HI180.out | apply IsS49.alloc | apply IsS49.drewN | apply IsS49.drew | apply IsS49.set_0 | apply IsS49.set_1 | apply IsS49.set_2 | refine IsS49.far ?_ NB180_185.out _) | exact HI180.out))) : g180 ≠ gb201)); have n9_ := Aside0.mk ((by rw [hg]; exact Nat.ne_of_gt (IsS49.lt (show IsS49 w _ g180 t198 t199 t200 from by repeat (first | (with_reducible first | exact HI180.out | apply IsS49.alloc | apply IsS49.drewN | apply IsS49.drew | apply IsS49.set_0 | apply IsS49.set_1 | apply IsS49.set_2 | refine IsS49.far ?_ NB180_185.out _) | exact HI180.out))) : gb201 ≠ g180)); clear BK185; clear HI180; clear HB; have BK185 := n0_; have HI180 := n1_; have HB := n2_; have BK201 := n3_; have GW201 := n4_; have GE201 := n5_; have NB185_201 := n6_; have NB201_185 := n7_; have NB180_201 := n8_; have NB201_180 := n9_; clear n0_ n1_ n2_ n3_ n4_ n5_ n6_ n7_ n8_ n9_; clear hb hbox hg; have hnb28 := NB201_185.out; have hnc28 := NB185_201.out; have hnb29 := NB201_180.out; have hnc29 := NB180_201.out; have hcz30_0 : w27.cell? ⟨gb201, 0, none⟩ = some (.int .i64 0) := (blk_cell BK201.out 0).trans rfl; have hcz30_1 : w27.cell? ⟨gb201, 1, none⟩ = some (.int .i64 0) := (blk_cell BK201.out 1).trans rfl; have hcz30_2 : w27.cell? ⟨gb201, 2, none⟩ = some (.int .i64 0) := (blk_cell BK201.out 2).trans rfl; have hcz30_3 : w27.cell? ⟨gb201, 3, none⟩ = some (.string (⟨#[]⟩ : ByteArray)) := (blk_cell BK201.out 3).trans rfl; have hfz30_0 := blk_frozen BK201.out 0; have hfz30_1 := blk_frozen BK201.out 1; have hfz30_2 := blk_frozen BK201.out 2; have hfz30_3 := blk_frozen BK201.out 3))
                      (try simp only [Act.put, List.setIfInBounds_toArray, List.set_cons_zero, List.set_cons_succ])
                      go_cut [69] (fun v69 wc => ∃ (kq : Nat) (x69_24 : Bool), v69 = .bool x69_24 ∧ Aside0 (bywashlaw8_SplitEmpty.j3 kq a0 x8_3 x69_24 t198 t199 t200 4 1 0 (⟨#[]⟩ : ByteArray) = some r) ∧ Aside0 (kq ≤ k3) ∧ Aside0 (wc.heap[gb185]? = some (.cells #[.int .i64 4, .int .i64 1, .int .i64 0, .string (⟨#[]⟩ : ByteArray)] 28 (0, 0))) ∧ Aside0 (wc.heap[gb201]? = some (.cells #[.int .i64 t192, .int .i64 t193, .int .i64 t194, .string t195] 28 (0, 0))) ∧ Aside0 (IsS49 w wc g180 t198 t199 t200) ∧ Aside0 (Below w.heap.size w wc))
                      case first =>
                        have H := HC25.out
                        clear HC25
                        by_cases c31 : t196 = true
                        · subst c31
                          have H1 : (if t197 = 0 then (bywashlaw8_SplitEmpty.j3 k3 a0 x8_3 (!(t192 == 4) || (!(t193 == 1) || (!(t194 == 0) || (!(t195.toList == (⟨#[]⟩ : ByteArray).toList))))) t198 t199 t200 4 1 0 (⟨#[]⟩ : ByteArray)) else (bywashlaw8_SplitEmpty.j3 k3 a0 x8_3 true t198 t199 t200 4 1 0 (⟨#[]⟩ : ByteArray))) = some r := by rw [if_pos rfl] at H; exact H
                          clear H
                          have H := H1
                          clear H1
                          by_cases c32 : t197 = 0
                          · rw [if_pos c32] at H
                            have c32b0 : (t197 == 0) = true := beq_iff_eq.mpr c32
                            have c32b1 : (t197 != 0) = false := bne_eq_false_iff_eq.mpr c32
                            clear c32
                            (first | rw [c32b0] | (simp only [i64_w, i32_w]; rw [c32b0]) | skip)
                            have H' := Aside0.mk H
                            clear H
                            have hnb33 := NB201_185.out
                            have hnc33 := NB185_201.out
                            have hnb34 := NB201_180.out
                            have hnc34 := NB180_201.out
                            have hcz35_0 : w27.cell? ⟨gb201, 0, none⟩ = some (.int .i64 0) := (blk_cell BK201.out 0).trans rfl
                            have hcz35_1 : w27.cell? ⟨gb201, 1, none⟩ = some (.int .i64 0) := (blk_cell BK201.out 1).trans rfl
                            have hcz35_2 : w27.cell? ⟨gb201, 2, none⟩ = some (.int .i64 0) := (blk_cell BK201.out 2).trans rfl
                            have hcz35_3 : w27.cell? ⟨gb201, 3, none⟩ = some (.string (⟨#[]⟩ : ByteArray)) := (blk_cell BK201.out 3).trans rfl
                            have hfz35_0 := blk_frozen BK201.out 0
                            have hfz35_1 := blk_frozen BK201.out 1
                            have hfz35_2 := blk_frozen BK201.out 2
                            have hfz35_3 := blk_frozen BK201.out 3
                            have hnb36 := NB185_180.out
                            have hnc36 := NB180_185.out
                            have hcz37_0 : w27.cell? ⟨gb185, 0, none⟩ = some (.int .i64 4) := (blk_cell BK185.out 0).trans rfl
                            have hcz37_1 : w27.cell? ⟨gb185, 1, none⟩ = some (.int .i64 1) := (blk_cell BK185.out 1).trans rfl
                            have hcz37_2 : w27.cell? ⟨gb185, 2, none⟩ = some (.int .i64 0) := (blk_cell BK185.out 2).trans rfl
                            have hcz37_3 : w27.cell? ⟨gb185, 3, none⟩ = some (.string (⟨#[]⟩ : ByteArray)) := (blk_cell BK185.out 3).trans rfl
                            have hfz37_0 := blk_frozen BK185.out 0
                            have hfz37_1 := blk_frozen BK185.out 1
                            have hfz37_2 := blk_frozen BK185.out 2
                            have hfz37_3 := blk_frozen BK185.out 3
                            go_wp2
                            go_meet
                            case rel => exact ⟨_, ((!(t192 == 4) || (!(t193 == 1) || (!(t194 == 0) || (!(t195.toList == (⟨#[]⟩ : ByteArray).toList)))))), (by first | rfl | (simp; done) | (simp [*]; done)), H', ⟨by have := HJ1.out; have := HK2.out; have := HK3.out; first | omega | exact Nat.le_refl _⟩, ⟨by (with_reducible repeat (first | refine blk_drewN ?_ _ | refine blk_drew ?_ | refine blk_alloc ?_ _)); refine blk_far ?_ NB185_201.out _; (with_reducible repeat (first | refine blk_drewN ?_ _ | refine blk_drew ?_ | refine blk_alloc ?_ _)); refine blk_far ?_ NB185_201.out _; (with_reducible repeat (first | refine blk_drewN ?_ _ | refine blk_drew ?_ | refine blk_alloc ?_ _)); refine blk_far ?_ NB185_201.out _; (with_reducible repeat (first | refine blk_drewN ?_ _ | refine blk_drew ?_ | refine blk_alloc ?_ _)); refine blk_far ?_ NB185_201.out _; (with_reducible repeat (first | refine blk_drewN ?_ _ | refine blk_drew ?_ | refine blk_alloc ?_ _)); exact BK185.out⟩, ⟨by (with_reducible repeat (first | refine blk_drewN ?_ _ | refine blk_drew ?_ | refine blk_alloc ?_ _)); refine blk_put (cs := #[.int .i64 t192, .int .i64 t193, .int .i64 t194, .string (⟨#[]⟩ : ByteArray)]) ?_ 3 _ rfl; (with_reducible repeat (first | refine blk_drewN ?_ _ | refine blk_drew ?_ | refine blk_alloc ?_ _)); refine blk_put (cs := #[.int .i64 t192, .int .i64 t193, .int .i64 0, .string (⟨#[]⟩ : ByteArray)]) ?_ 2 _ rfl; (with_reducible repeat (first | refine blk_drewN ?_ _ | refine blk_drew ?_ | refine blk_alloc ?_ _)); refine blk_put (cs := #[.int .i64 t192, .int .i64 0, .int .i64 0, .string (⟨#[]⟩ : ByteArray)]) ?_ 1 _ rfl; (with_reducible repeat (first | refine blk_drewN ?_ _ | refine blk_drew ?_ | refine blk_alloc ?_ _)); refine blk_put (cs := #[.int .i64 0, .int .i64 0, .int .i64 0, .string (⟨#[]⟩ : ByteArray)]) ?_ 0 _ rfl; (with_reducible repeat (first | refine blk_drewN ?_ _ | refine blk_drew ?_ | refine blk_alloc ?_ _)); exact BK201.out⟩, ⟨by repeat (first | (with_reducible first | exact HI180.out | apply IsS49.alloc | apply IsS49.drewN | apply IsS49.drew | apply IsS49.set_0 | apply IsS49.set_1 | apply IsS49.set_2 | refine IsS49.far ?_ NB180_185.out _ | refine IsS49.far ?_ NB180_201.out _) | exact HI180.out)⟩, ⟨by repeat (first | (with_reducible first | exact HB.out | apply below_alloc | apply pw_below_drewN | apply below_drew1 | refine below_set ?_ (IsS49.ge HI180.out) | refine below_set ?_ GE185.out | refine below_set ?_ GE201.out) | exact HB.out)⟩⟩
                          · rw [if_neg c32] at H
                            have c32b0 : (t197 == 0) = false := beq_eq_false_iff_ne.mpr c32
                            have c32b1 : (t197 != 0) = true := bne_iff_ne.mpr c32
                            (first | rw [c32b0] | (simp only [i64_w, i32_w]; rw [c32b0]) | skip)
                            have H' := Aside0.mk H
                            clear H
                            go_wp2
                            go_meet
                            case rel => exact ⟨_, (true), (by first | rfl | (simp; done) | (simp [*]; done)), H', ⟨by have := HJ1.out; have := HK2.out; have := HK3.out; first | omega | exact Nat.le_refl _⟩, ⟨by (with_reducible repeat (first | refine blk_drewN ?_ _ | refine blk_drew ?_ | refine blk_alloc ?_ _)); refine blk_far ?_ NB185_201.out _; (with_reducible repeat (first | refine blk_drewN ?_ _ | refine blk_drew ?_ | refine blk_alloc ?_ _)); refine blk_far ?_ NB185_201.out _; (with_reducible repeat (first | refine blk_drewN ?_ _ | refine blk_drew ?_ | refine blk_alloc ?_ _)); refine blk_far ?_ NB185_201.out _; (with_reducible repeat (first | refine blk_drewN ?_ _ | refine blk_drew ?_ | refine blk_alloc ?_ _)); refine blk_far ?_ NB185_201.out _; (with_reducible repeat (first | refine blk_drewN ?_ _ | refine blk_drew ?_ | refine blk_alloc ?_ _)); exact BK185.out⟩, ⟨by (with_reducible repeat (first | refine blk_drewN ?_ _ | refine blk_drew ?_ | refine blk_alloc ?_ _)); refine blk_put (cs := #[.int .i64 t192, .int .i64 t193, .int .i64 t194, .string (⟨#[]⟩ : ByteArray)]) ?_ 3 _ rfl; (with_reducible repeat (first | refine blk_drewN ?_ _ | refine blk_drew ?_ | refine blk_alloc ?_ _)); refine blk_put (cs := #[.int .i64 t192, .int .i64 t193, .int .i64 0, .string (⟨#[]⟩ : ByteArray)]) ?_ 2 _ rfl; (with_reducible repeat (first | refine blk_drewN ?_ _ | refine blk_drew ?_ | refine blk_alloc ?_ _)); refine blk_put (cs := #[.int .i64 t192, .int .i64 0, .int .i64 0, .string (⟨#[]⟩ : ByteArray)]) ?_ 1 _ rfl; (with_reducible repeat (first | refine blk_drewN ?_ _ | refine blk_drew ?_ | refine blk_alloc ?_ _)); refine blk_put (cs := #[.int .i64 0, .int .i64 0, .int .i64 0, .string (⟨#[]⟩ : ByteArray)]) ?_ 0 _ rfl; (with_reducible repeat (first | refine blk_drewN ?_ _ | refine blk_drew ?_ | refine blk_alloc ?_ _)); exact BK201.out⟩, ⟨by repeat (first | (with_reducible first | exact HI180.out | apply IsS49.alloc | apply IsS49.drewN | apply IsS49.drew | apply IsS49.set_0 | apply IsS49.set_1 | apply IsS49.set_2 | refine IsS49.far ?_ NB180_185.out _ | refine IsS49.far ?_ NB180_201.out _) | exact HI180.out)⟩, ⟨by repeat (first | (with_reducible first | exact HB.out | apply below_alloc | apply pw_below_drewN | apply below_drew1 | refine below_set ?_ (IsS49.ge HI180.out) | refine below_set ?_ GE185.out | refine below_set ?_ GE201.out) | exact HB.out)⟩⟩
                        · replace c31 := Bool.eq_false_iff.mpr c31
                          subst c31
                          have H1 : (bywashlaw8_SplitEmpty.j3 k3 a0 x8_3 true t198 t199 t200 4 1 0 (⟨#[]⟩ : ByteArray)) = some r := by rw [if_neg (show ¬ (false = true) by decide)] at H; exact H
                          clear H
                          have H := H1
                          clear H1
                          have H' := Aside0.mk H
                          clear H
                          go_wp2
                          go_meet
                          case rel => exact ⟨_, (true), (by first | rfl | (simp; done) | (simp [*]; done)), H', ⟨by have := HJ1.out; have := HK2.out; have := HK3.out; first | omega | exact Nat.le_refl _⟩, ⟨by (with_reducible repeat (first | refine blk_drewN ?_ _ | refine blk_drew ?_ | refine blk_alloc ?_ _)); refine blk_far ?_ NB185_201.out _; (with_reducible repeat (first | refine blk_drewN ?_ _ | refine blk_drew ?_ | refine blk_alloc ?_ _)); refine blk_far ?_ NB185_201.out _; (with_reducible repeat (first | refine blk_drewN ?_ _ | refine blk_drew ?_ | refine blk_alloc ?_ _)); refine blk_far ?_ NB185_201.out _; (with_reducible repeat (first | refine blk_drewN ?_ _ | refine blk_drew ?_ | refine blk_alloc ?_ _)); refine blk_far ?_ NB185_201.out _; (with_reducible repeat (first | refine blk_drewN ?_ _ | refine blk_drew ?_ | refine blk_alloc ?_ _)); exact BK185.out⟩, ⟨by (with_reducible repeat (first | refine blk_drewN ?_ _ | refine blk_drew ?_ | refine blk_alloc ?_ _)); refine blk_put (cs := #[.int .i64 t192, .int .i64 t193, .int .i64 t194, .string (⟨#[]⟩ : ByteArray)]) ?_ 3 _ rfl; (with_reducible repeat (first | refine blk_drewN ?_ _ | refine blk_drew ?_ | refine blk_alloc ?_ _)); refine blk_put (cs := #[.int .i64 t192, .int .i64 t193, .int .i64 0, .string (⟨#[]⟩ : ByteArray)]) ?_ 2 _ rfl; (with_reducible repeat (first | refine blk_drewN ?_ _ | refine blk_drew ?_ | refine blk_alloc ?_ _)); refine blk_put (cs := #[.int .i64 t192, .int .i64 0, .int .i64 0, .string (⟨#[]⟩ : ByteArray)]) ?_ 1 _ rfl; (with_reducible repeat (first | refine blk_drewN ?_ _ | refine blk_drew ?_ | refine blk_alloc ?_ _)); refine blk_put (cs := #[.int .i64 0, .int .i64 0, .int .i64 0, .string (⟨#[]⟩ : ByteArray)]) ?_ 0 _ rfl; (with_reducible repeat (first | refine blk_drewN ?_ _ | refine blk_drew ?_ | refine blk_alloc ?_ _)); exact BK201.out⟩, ⟨by repeat (first | (with_reducible first | exact HI180.out | apply IsS49.alloc | apply IsS49.drewN | apply IsS49.drew | apply IsS49.set_0 | apply IsS49.set_1 | apply IsS49.set_2 | refine IsS49.far ?_ NB180_185.out _ | refine IsS49.far ?_ NB180_201.out _) | exact HI180.out)⟩, ⟨by repeat (first | (with_reducible first | exact HB.out | apply below_alloc | apply pw_below_drewN | apply below_drew1 | refine below_set ?_ (IsS49.ge HI180.out) | refine below_set ?_ GE185.out | refine below_set ?_ GE201.out) | exact HB.out)⟩⟩
                      case rest =>
                        clear HC25
                        try clear c1
                        try clear c2
                        try clear p2
                        try clear c3
                        try clear c3b0
                        try clear c4
                        try clear c4b0
                        try clear p6
                        try clear c7
                        try clear c9
                        try clear c10
                        try clear c11
                        try clear c12
                        try clear c12b0
                        try clear c12b1
                        try clear c16
                        try clear c17
                        try clear c20
                        try clear c20b0
                        try clear c23
                        try clear c23b0
                        try clear c28
                        try clear c29
                        try clear c31
                        try clear c32
                        try clear c32b0
                        try clear c32b1
                        try clear c33
                        try clear c34
                        try clear c36
                        try clear hcz18_0
                        try clear hcz18_1
                        try clear hcz18_2
                        try clear hcz18_3
                        try clear hcz30_0
                        try clear hcz30_1
                        try clear hcz30_2
                        try clear hcz30_3
                        try clear hcz35_0
                        try clear hcz35_1
                        try clear hcz35_2
                        try clear hcz35_3
                        try clear hcz37_0
                        try clear hcz37_1
                        try clear hcz37_2
                        try clear hcz37_3
                        try clear hfz18_0
                        try clear hfz18_1
                        try clear hfz18_2
                        try clear hfz18_3
                        try clear hfz30_0
                        try clear hfz30_1
                        try clear hfz30_2
                        try clear hfz30_3
                        try clear hfz35_0
                        try clear hfz35_1
                        try clear hfz35_2
                        try clear hfz35_3
                        try clear hfz37_0
                        try clear hfz37_1
                        try clear hfz37_2
                        try clear hfz37_3
                        try clear p2
                        try clear p6
                        obtain ⟨kq, x69_24, rfl, HA, HJ24, BK185, BK201, HI180, HB⟩ := hcut
                        cases kq with
                        | zero => exact absurd HA.out (by simp [bywashlaw8_SplitEmpty.j3])
                        | succ kj24 =>
                          have H := HA.out
                          clear HA
                          simp only [bywashlaw8_SplitEmpty.j3] at H
                          by_cases c38 : x69_24 = true
                          · subst c38
                            have H1 : (some false) = some r := by rw [if_pos rfl] at H; exact H
                            clear H
                            have H := H1
                            clear H1
                            obtain rfl := Option.some.inj H
                            go_wp2
                            go_ret
                            exact ⟨by first | rfl | (simp [errW_none, errW_some] <;> rfl) | (simp [*, errW_none, errW_some] <;> rfl), by repeat (first | (with_reducible first | exact HB.out | apply below_alloc | apply pw_below_drewN | apply below_drew1 | refine below_set ?_ (IsS49.ge HI180.out) | refine below_set ?_ GE185.out | refine below_set ?_ GE201.out) | exact HB.out)⟩
                          · replace c38 := Bool.eq_false_iff.mpr c38
                            subst c38
                            have H1 : (bywashlaw8_SplitEmpty.l1 kj24 a0 (wrap64 (x8_3 + 1)) t198 t199 t200 4 1 0 (⟨#[]⟩ : ByteArray)) = some r := by rw [if_neg (show ¬ (false = true) by decide)] at H; exact H
                            clear H
                            have H := H1
                            clear H1
                            have H' := Aside0.mk H
                            clear H
                            go_wp2
                            go_roundg kj24
                            case measure => have := HJ1.out; have := HK2.out; have := HK3.out; have := HJ24.out; omega
                            case rel => exact ⟨(wrap64 (x8_3 + 1)), (t198), (t199), (t200), (by first | rfl | (simp; done) | (simp [*]; done)), H', ⟨by have := HJ1.out; have := HK2.out; have := HK3.out; have := HJ24.out; omega⟩, ⟨by (with_reducible repeat (first | refine blk_drewN ?_ _ | refine blk_drew ?_ | refine blk_alloc ?_ _)); exact BK185.out⟩, ⟨by repeat (first | (with_reducible first | exact HI180.out | apply IsS49.alloc | apply IsS49.drewN | apply IsS49.drew | apply IsS49.set_0 | apply IsS49.set_1 | apply IsS49.set_2 | refine IsS49.far ?_ NB180_185.out _ | refine IsS49.far ?_ NB180_201.out _) | exact HI180.out)⟩, ⟨by repeat (first | (with_reducible first | exact HB.out | apply below_alloc | apply pw_below_drewN | apply below_drew1 | refine below_set ?_ (IsS49.ge HI180.out) | refine below_set ?_ GE185.out | refine below_set ?_ GE201.out) | exact HB.out)⟩⟩
                    · rw [if_neg c23] at H
                      have c23b0 : decide (x8_3 < a0) = false := decide_eq_false c23
                      clear c23
                      replace H := Option.bind_eq_some_iff.mp H
                      obtain ⟨⟨t202, t203, t204, t205, t206, t207, t208, t209, t210⟩, A390, H⟩ := H
                      replace H : (if t206 = true then (some false) else (if t207 = 0 then ((split_Splitter_Held.f t208 t209 t210).bind fun bt212 => (if bt212.1 = 0 then ((split_Splitter_Over.f bt212.2.1 bt212.2.2.1 bt212.2.2.2).bind fun bt216 => (some (!bt216.1))) else (some false))) else (some false))) = some r := H
                      have A39 := Aside0.mk A390
                      clear A390
                      by_cases c40 : t206 = true
                      · subst c40
                        have H1 : (some false) = some r := by rw [if_pos rfl] at H; exact H
                        clear H
                        have H := H1
                        clear H1
                        obtain rfl := Option.some.inj H
                        go_wp2_with (first | ((with_reducible refine gate_callee (f := 11) rfl ?_); refine goesL_ (some 72) rfl rfl Try.func11 (by kernel_rfl) rfl #[.pointer (some ⟨g180, 0, none⟩)] rfl (by (try simp only [List.map_toArray, List.map_cons, List.map_nil]); first | done | rfl | (simp only [List.length_drop, List.length_take]; rfl)) ?_; (with_reducible refine (split_Splitter_Next.calls k3 g180 x181000_3 x181001_3 x181002_3 t202 t203 t204 t205 true t207 t208 t209 t210 w _ ?side1 ?side2 A39.out).mono ?_); (case side1 => repeat (first | (with_reducible first | exact HI180.out | apply IsS49.alloc | apply IsS49.drewN | apply IsS49.drew | apply IsS49.set_0 | apply IsS49.set_1 | apply IsS49.set_2 | refine IsS49.far ?_ NB180_185.out _) | exact HI180.out)); (case side2 => repeat (first | (with_reducible first | exact HB.out | apply below_alloc | apply pw_below_drewN | apply below_drew1 | refine below_set ?_ (IsS49.ge HI180.out) | refine below_set ?_ GE185.out) | exact HB.out)); rintro e w41 ⟨rfl, hi, hb, hk⟩; refine ⟨_, rfl, ?_⟩; have n0_ := Aside0.mk (KeepBut.blk hk (g' := gb185) (o := .cells #[.int .i64 4, .int .i64 1, .int .i64 0, .string (⟨#[]⟩ : ByteArray)] 28 (0, 0)) (by (with_reducible repeat (first | refine blk_drewN ?_ _ | refine blk_drew ?_ | refine blk_alloc ?_ _)); exact BK185.out) NB185_180.out (by simp)); have n1_ := Aside0.mk (hb); have n2_ := Aside0.mk (hi); clear BK185; clear HB; clear HI180; have BK185 := n0_; have HB := n1_; have HI180 := n2_; clear n0_ n1_ n2_; (try clear hb); (try clear hb2); (try clear hk); (try clear hi)) | ((with_reducible refine gate_dst (N := 12) rfl ?_); refine box_event ?hg (N := 12) ?hd (cs := #[.int .i64 0, .int .i64 0, .int .i64 0, .string (⟨#[]⟩ : ByteArray)]) (t := 28) ?hr ?_; (case hd => rfl); (case hg => rfl); (case hr => first | (go_simp; done) | (go_simp; rfl)); intro gb211 hg w42 hbox hb; have n0_ := Aside0.mk (blk_below (g := gb185) (o := .cells #[.int .i64 4, .int .i64 1, .int .i64 0, .string (⟨#[]⟩ : ByteArray)] 28 (0, 0)) (by (with_reducible repeat (first | refine blk_drewN ?_ _ | refine blk_drew ?_ | refine blk_alloc ?_ _)); exact BK185.out) hb); have n1_ := Aside0.mk (IsS49.below (by repeat (first | (with_reducible first | exact HI180.out | apply IsS49.alloc | apply IsS49.drewN | apply IsS49.drew | apply IsS49.set_0 | apply IsS49.set_1 | apply IsS49.set_2 | refine IsS49.far ?_ NB180_185.out _) | exact HI180.out)) hb); have n2_ := Aside0.mk (below_step (by repeat (first | (with_reducible first | exact HB.out | apply below_alloc | apply pw_below_drewN | apply below_drew1 | refine below_set ?_ (IsS49.ge HI180.out) | refine below_set ?_ GE185.out) | exact HB.out)) hb); have n3_ := Aside0.mk (hbox); have n4_ := Aside0.mk ((by rw [hg]; exact (below_size (by repeat (first | (with_reducible first | exact HB.out | apply below_alloc | apply pw_below_drewN | apply below_drew1 | refine below_set ?_ (IsS49.ge HI180.out) | refine below_set ?_ GE185.out) | exact HB.out))) : w.heap.size ≤ gb211)); have n5_ := Aside0.mk ((by rw [hg]; exact (below_size (by repeat (first | (with_reducible first | exact HB.out | apply below_alloc | apply pw_below_drewN | apply below_drew1 | refine below_set ?_ (IsS49.ge HI180.out) | refine below_set ?_ GE185.out) | exact HB.out))) : w.heap.size ≤ gb211)); have n6_ := Aside0.mk ((by rw [hg]; exact Nat.ne_of_lt (blk_lt (g := gb185) (o := .cells #[.int .i64 4, .int .i64 1, .int .i64 0, .string (⟨#[]⟩ : ByteArray)] 28 (0, 0)) (by (with_reducible repeat (first | refine blk_drewN ?_ _ | refine blk_drew ?_ | refine blk_alloc ?_ _)); exact BK185.out)) : gb185 ≠ gb211)); have n7_ := Aside0.mk ((by rw [hg]; exact Nat.ne_of_gt (blk_lt (g := gb185) (o := .cells #[.int .i64 4, .int .i64 1, .int .i64 0, .string (⟨#[]⟩ : ByteArray)] 28 (0, 0)) (by (with_reducible repeat (first | refine blk_drewN ?_ _ | refine blk_drew ?_ | refine blk_alloc ?_ _)); exact BK185.out)) : gb211 ≠ gb185)); have n8_ := Aside0.mk ((by rw [hg]; exact Nat.ne_of_lt (IsS49.lt (show IsS49 w _ g180 t208 t209 t210 from by repeat (first | (with_reducible first | exact HI180.out | apply IsS49.alloc | apply IsS49.drewN | apply IsS49.drew | apply IsS49.set_0 | apply IsS49.set_1 | apply IsS49.set_2 | refine IsS49.far ?_ NB180_185.out _) | exact HI180.out))) : g180 ≠ gb211)); have n9_ := Aside0.mk ((by rw [hg]; exact Nat.ne_of_gt (IsS49.lt (show IsS49 w _ g180 t208 t209 t210 from by repeat (first | (with_reducible first | exact HI180.out | apply IsS49.alloc | apply IsS49.drewN | apply IsS49.drew | apply IsS49.set_0 | apply IsS49.set_1 | apply IsS49.set_2 | refine IsS49.far ?_ NB180_185.out _) | exact HI180.out))) : gb211 ≠ g180)); clear BK185; clear HI180; clear HB; have BK185 := n0_; have HI180 := n1_; have HB := n2_; have BK211 := n3_; have GW211 := n4_; have GE211 := n5_; have NB185_211 := n6_; have NB211_185 := n7_; have NB180_211 := n8_; have NB211_180 := n9_; clear n0_ n1_ n2_ n3_ n4_ n5_ n6_ n7_ n8_ n9_; clear hb hbox hg; have hnb43 := NB211_185.out; have hnc43 := NB185_211.out; have hnb44 := NB211_180.out; have hnc44 := NB180_211.out; have hcz45_0 : w42.cell? ⟨gb211, 0, none⟩ = some (.int .i64 0) := (blk_cell BK211.out 0).trans rfl; have hcz45_1 : w42.cell? ⟨gb211, 1, none⟩ = some (.int .i64 0) := (blk_cell BK211.out 1).trans rfl; have hcz45_2 : w42.cell? ⟨gb211, 2, none⟩ = some (.int .i64 0) := (blk_cell BK211.out 2).trans rfl; have hcz45_3 : w42.cell? ⟨gb211, 3, none⟩ = some (.string (⟨#[]⟩ : ByteArray)) := (blk_cell BK211.out 3).trans rfl; have hfz45_0 := blk_frozen BK211.out 0; have hfz45_1 := blk_frozen BK211.out 1; have hfz45_2 := blk_frozen BK211.out 2; have hfz45_3 := blk_frozen BK211.out 3))
                        go_ret
                        exact ⟨by first | rfl | (simp [errW_none, errW_some] <;> rfl) | (simp [*, errW_none, errW_some] <;> rfl), by repeat (first | (with_reducible first | exact HB.out | apply below_alloc | apply pw_below_drewN | apply below_drew1 | refine below_set ?_ (IsS49.ge HI180.out) | refine below_set ?_ GE185.out | refine below_set ?_ GE211.out) | exact HB.out)⟩
                      · replace c40 := Bool.eq_false_iff.mpr c40
                        subst c40
                        have H1 : (if t207 = 0 then ((split_Splitter_Held.f t208 t209 t210).bind fun bt212 => (if bt212.1 = 0 then ((split_Splitter_Over.f bt212.2.1 bt212.2.2.1 bt212.2.2.2).bind fun bt216 => (some (!bt216.1))) else (some false))) else (some false)) = some r := by rw [if_neg (show ¬ (false = true) by decide)] at H; exact H
                        clear H
                        have H := H1
                        clear H1
                        by_cases c46 : t207 = 0
                        · rw [if_pos c46] at H
                          have c46b0 : (t207 == 0) = true := beq_iff_eq.mpr c46
                          have c46b1 : (t207 != 0) = false := bne_eq_false_iff_eq.mpr c46
                          clear c46
                          replace H := Option.bind_eq_some_iff.mp H
                          obtain ⟨⟨t212, t213, t214, t215⟩, A470, H⟩ := H
                          replace H : (if t212 = 0 then ((split_Splitter_Over.f t213 t214 t215).bind fun bt216 => (some (!bt216.1))) else (some false)) = some r := H
                          have A47 := Aside0.mk A470
                          clear A470
                          by_cases c48 : t212 = 0
                          · rw [if_pos c48] at H
                            have c48b0 : (t212 == 0) = true := beq_iff_eq.mpr c48
                            have c48b1 : (t212 != 0) = false := bne_eq_false_iff_eq.mpr c48
                            clear c48
                            replace H := Option.bind_eq_some_iff.mp H
                            obtain ⟨⟨t216, t217, t218, t219⟩, A490, H⟩ := H
                            replace H : (some (!t216)) = some r := H
                            have A49 := Aside0.mk A490
                            clear A490
                            obtain rfl := Option.some.inj H
                            go_wp2_with (first | ((with_reducible refine gate_callee (f := 11) rfl ?_); refine goesL_ (some 72) rfl rfl Try.func11 (by kernel_rfl) rfl #[.pointer (some ⟨g180, 0, none⟩)] rfl (by (try simp only [List.map_toArray, List.map_cons, List.map_nil]); first | done | rfl | (simp only [List.length_drop, List.length_take]; rfl)) ?_; (with_reducible refine (split_Splitter_Next.calls k3 g180 x181000_3 x181001_3 x181002_3 t202 t203 t204 t205 false t207 t208 t209 t210 w _ ?side1 ?side2 A39.out).mono ?_); (case side1 => repeat (first | (with_reducible first | exact HI180.out | apply IsS49.alloc | apply IsS49.drewN | apply IsS49.drew | apply IsS49.set_0 | apply IsS49.set_1 | apply IsS49.set_2 | refine IsS49.far ?_ NB180_185.out _) | exact HI180.out)); (case side2 => repeat (first | (with_reducible first | exact HB.out | apply below_alloc | apply pw_below_drewN | apply below_drew1 | refine below_set ?_ (IsS49.ge HI180.out) | refine below_set ?_ GE185.out) | exact HB.out)); rintro e w50 ⟨rfl, hi, hb, hk⟩; refine ⟨_, rfl, ?_⟩; have n0_ := Aside0.mk (KeepBut.blk hk (g' := gb185) (o := .cells #[.int .i64 4, .int .i64 1, .int .i64 0, .string (⟨#[]⟩ : ByteArray)] 28 (0, 0)) (by (with_reducible repeat (first | refine blk_drewN ?_ _ | refine blk_drew ?_ | refine blk_alloc ?_ _)); exact BK185.out) NB185_180.out (by simp)); have n1_ := Aside0.mk (hb); have n2_ := Aside0.mk (hi); clear BK185; clear HB; clear HI180; have BK185 := n0_; have HB := n1_; have HI180 := n2_; clear n0_ n1_ n2_; (try clear hb); (try clear hb2); (try clear hk); (try clear hi)) | ((with_reducible refine gate_dst (N := 12) rfl ?_); refine box_event ?hg (N := 12) ?hd (cs := #[.int .i64 0, .int .i64 0, .int .i64 0, .string (⟨#[]⟩ : ByteArray)]) (t := 28) ?hr ?_; (case hd => rfl); (case hg => rfl); (case hr => first | (go_simp; done) | (go_simp; rfl)); intro gb211 hg w51 hbox hb; have n0_ := Aside0.mk (blk_below (g := gb185) (o := .cells #[.int .i64 4, .int .i64 1, .int .i64 0, .string (⟨#[]⟩ : ByteArray)] 28 (0, 0)) (by (with_reducible repeat (first | refine blk_drewN ?_ _ | refine blk_drew ?_ | refine blk_alloc ?_ _)); exact BK185.out) hb); have n1_ := Aside0.mk (IsS49.below (by repeat (first | (with_reducible first | exact HI180.out | apply IsS49.alloc | apply IsS49.drewN | apply IsS49.drew | apply IsS49.set_0 | apply IsS49.set_1 | apply IsS49.set_2 | refine IsS49.far ?_ NB180_185.out _) | exact HI180.out)) hb); have n2_ := Aside0.mk (below_step (by repeat (first | (with_reducible first | exact HB.out | apply below_alloc | apply pw_below_drewN | apply below_drew1 | refine below_set ?_ (IsS49.ge HI180.out) | refine below_set ?_ GE185.out) | exact HB.out)) hb); have n3_ := Aside0.mk (hbox); have n4_ := Aside0.mk ((by rw [hg]; exact (below_size (by repeat (first | (with_reducible first | exact HB.out | apply below_alloc | apply pw_below_drewN | apply below_drew1 | refine below_set ?_ (IsS49.ge HI180.out) | refine below_set ?_ GE185.out) | exact HB.out))) : w.heap.size ≤ gb211)); have n5_ := Aside0.mk ((by rw [hg]; exact (below_size (by repeat (first | (with_reducible first | exact HB.out | apply below_alloc | apply pw_below_drewN | apply below_drew1 | refine below_set ?_ (IsS49.ge HI180.out) | refine below_set ?_ GE185.out) | exact HB.out))) : w.heap.size ≤ gb211)); have n6_ := Aside0.mk ((by rw [hg]; exact Nat.ne_of_lt (blk_lt (g := gb185) (o := .cells #[.int .i64 4, .int .i64 1, .int .i64 0, .string (⟨#[]⟩ : ByteArray)] 28 (0, 0)) (by (with_reducible repeat (first | refine blk_drewN ?_ _ | refine blk_drew ?_ | refine blk_alloc ?_ _)); exact BK185.out)) : gb185 ≠ gb211)); have n7_ := Aside0.mk ((by rw [hg]; exact Nat.ne_of_gt (blk_lt (g := gb185) (o := .cells #[.int .i64 4, .int .i64 1, .int .i64 0, .string (⟨#[]⟩ : ByteArray)] 28 (0, 0)) (by (with_reducible repeat (first | refine blk_drewN ?_ _ | refine blk_drew ?_ | refine blk_alloc ?_ _)); exact BK185.out)) : gb211 ≠ gb185)); have n8_ := Aside0.mk ((by rw [hg]; exact Nat.ne_of_lt (IsS49.lt (show IsS49 w _ g180 t208 t209 t210 from by repeat (first | (with_reducible first | exact HI180.out | apply IsS49.alloc | apply IsS49.drewN | apply IsS49.drew | apply IsS49.set_0 | apply IsS49.set_1 | apply IsS49.set_2 | refine IsS49.far ?_ NB180_185.out _) | exact HI180.out))) : g180 ≠ gb211)); have n9_ := Aside0.mk ((by rw [hg]; exact Nat.ne_of_gt (IsS49.lt (show IsS49 w _ g180 t208 t209 t210 from by repeat (first | (with_reducible first | exact HI180.out | apply IsS49.alloc | apply IsS49.drewN | apply IsS49.drew | apply IsS49.set_0 | apply IsS49.set_1 | apply IsS49.set_2 | refine IsS49.far ?_ NB180_185.out _) | exact HI180.out))) : gb211 ≠ g180)); clear BK185; clear HI180; clear HB; have BK185 := n0_; have HI180 := n1_; have HB := n2_; have BK211 := n3_; have GW211 := n4_; have GE211 := n5_; have NB185_211 := n6_; have NB211_185 := n7_; have NB180_211 := n8_; have NB211_180 := n9_; clear n0_ n1_ n2_ n3_ n4_ n5_ n6_ n7_ n8_ n9_; clear hb hbox hg; have hnb52 := NB211_185.out; have hnc52 := NB185_211.out; have hnb53 := NB211_180.out; have hnc53 := NB180_211.out; have hcz54_0 : w51.cell? ⟨gb211, 0, none⟩ = some (.int .i64 0) := (blk_cell BK211.out 0).trans rfl; have hcz54_1 : w51.cell? ⟨gb211, 1, none⟩ = some (.int .i64 0) := (blk_cell BK211.out 1).trans rfl; have hcz54_2 : w51.cell? ⟨gb211, 2, none⟩ = some (.int .i64 0) := (blk_cell BK211.out 2).trans rfl; have hcz54_3 : w51.cell? ⟨gb211, 3, none⟩ = some (.string (⟨#[]⟩ : ByteArray)) := (blk_cell BK211.out 3).trans rfl; have hfz54_0 := blk_frozen BK211.out 0; have hfz54_1 := blk_frozen BK211.out 1; have hfz54_2 := blk_frozen BK211.out 2; have hfz54_3 := blk_frozen BK211.out 3) | (go_at_call 13; (with_reducible refine (split_Splitter_Held.calls g180 t208 t209 t210 t212 t213 t214 t215 w _ ?side1 ?side2 A47.out).mono ?_); (case side1 => repeat (first | (with_reducible first | exact HI180.out | apply IsS49.alloc | apply IsS49.drewN | apply IsS49.drew | apply IsS49.set_0 | apply IsS49.set_1 | apply IsS49.set_2 | refine IsS49.far ?_ NB180_185.out _ | refine IsS49.far ?_ NB180_211.out _) | exact HI180.out)); (case side2 => repeat (first | (with_reducible first | exact HB.out | apply below_alloc | apply pw_below_drewN | apply below_drew1 | refine below_set ?_ (IsS49.ge HI180.out) | refine below_set ?_ GE185.out | refine below_set ?_ GE211.out) | exact HB.out)); rintro e w55 ⟨rfl, hi, hb, hk⟩; have n0_ := Aside0.mk (KeepBut.blk hk (g' := gb185) (o := .cells #[.int .i64 4, .int .i64 1, .int .i64 0, .string (⟨#[]⟩ : ByteArray)] 28 (0, 0)) (by (with_reducible repeat (first | refine blk_drewN ?_ _ | refine blk_drew ?_ | refine blk_alloc ?_ _)); refine blk_far ?_ NB185_211.out _; (with_reducible repeat (first | refine blk_drewN ?_ _ | refine blk_drew ?_ | refine blk_alloc ?_ _)); refine blk_far ?_ NB185_211.out _; (with_reducible repeat (first | refine blk_drewN ?_ _ | refine blk_drew ?_ | refine blk_alloc ?_ _)); refine blk_far ?_ NB185_211.out _; (with_reducible repeat (first | refine blk_drewN ?_ _ | refine blk_drew ?_ | refine blk_alloc ?_ _)); refine blk_far ?_ NB185_211.out _; (with_reducible repeat (first | refine blk_drewN ?_ _ | refine blk_drew ?_ | refine blk_alloc ?_ _)); exact BK185.out) NB185_180.out (by simp)); have n1_ := Aside0.mk (KeepBut.blk hk (g' := gb211) (o := .cells #[.int .i64 t202, .int .i64 t203, .int .i64 t204, .string t205] 28 (0, 0)) (by (with_reducible repeat (first | refine blk_drewN ?_ _ | refine blk_drew ?_ | refine blk_alloc ?_ _)); refine blk_put (cs := #[.int .i64 t202, .int .i64 t203, .int .i64 t204, .string (⟨#[]⟩ : ByteArray)]) ?_ 3 _ rfl; (with_reducible repeat (first | refine blk_drewN ?_ _ | refine blk_drew ?_ | refine blk_alloc ?_ _)); refine blk_put (cs := #[.int .i64 t202, .int .i64 t203, .int .i64 0, .string (⟨#[]⟩ : ByteArray)]) ?_ 2 _ rfl; (with_reducible repeat (first | refine blk_drewN ?_ _ | refine blk_drew ?_ | refine blk_alloc ?_ _)); refine blk_put (cs := #[.int .i64 t202, .int .i64 0, .int .i64 0, .string (⟨#[]⟩ : ByteArray)]) ?_ 1 _ rfl; (with_reducible repeat (first | refine blk_drewN ?_ _ | refine blk_drew ?_ | refine blk_alloc ?_ _)); refine blk_put (cs := #[.int .i64 0, .int .i64 0, .int .i64 0, .string (⟨#[]⟩ : ByteArray)]) ?_ 0 _ rfl; (with_reducible repeat (first | refine blk_drewN ?_ _ | refine blk_drew ?_ | refine blk_alloc ?_ _)); exact BK211.out) NB211_180.out (by simp)); have n2_ := Aside0.mk (hb); have n3_ := Aside0.mk (hi); clear BK185; clear BK211; clear HB; clear HI180; have BK185 := n0_; have BK211 := n1_; have HB := n2_; have HI180 := n3_; clear n0_ n1_ n2_ n3_; (try clear hb); (try clear hb2); (try clear hk); (try clear hi)) | (go_at_call 14; (with_reducible refine (split_Splitter_Over.calls g180 t213 t214 t215 t216 t217 t218 t219 w _ ?side1 ?side2 A49.out).mono ?_); (case side1 => repeat (first | (with_reducible first | exact HI180.out | apply IsS49.alloc | apply IsS49.drewN | apply IsS49.drew | apply IsS49.set_0 | apply IsS49.set_1 | apply IsS49.set_2 | refine IsS49.far ?_ NB180_185.out _ | refine IsS49.far ?_ NB180_211.out _) | exact HI180.out)); (case side2 => repeat (first | (with_reducible first | exact HB.out | apply below_alloc | apply pw_below_drewN | apply below_drew1 | refine below_set ?_ (IsS49.ge HI180.out) | refine below_set ?_ GE185.out | refine below_set ?_ GE211.out) | exact HB.out)); rintro e w56 ⟨rfl, hi, hb, hk⟩; have n0_ := Aside0.mk (KeepBut.blk hk (g' := gb185) (o := .cells #[.int .i64 4, .int .i64 1, .int .i64 0, .string (⟨#[]⟩ : ByteArray)] 28 (0, 0)) (by (with_reducible repeat (first | refine blk_drewN ?_ _ | refine blk_drew ?_ | refine blk_alloc ?_ _)); exact BK185.out) NB185_180.out (by simp)); have n1_ := Aside0.mk (KeepBut.blk hk (g' := gb211) (o := .cells #[.int .i64 t202, .int .i64 t203, .int .i64 t204, .string t205] 28 (0, 0)) (by (with_reducible repeat (first | refine blk_drewN ?_ _ | refine blk_drew ?_ | refine blk_alloc ?_ _)); exact BK211.out) NB211_180.out (by simp)); have n2_ := Aside0.mk (hb); have n3_ := Aside0.mk (hi); clear BK185; clear BK211; clear HB; clear HI180; have BK185 := n0_; have BK211 := n1_; have HB := n2_; have HI180 := n3_; clear n0_ n1_ n2_ n3_; (try clear hb); (try clear hb2); (try clear hk); (try clear hi)))
                            go_ret
                            exact ⟨by first | rfl | (simp [errW_none, errW_some] <;> rfl) | (simp [*, errW_none, errW_some] <;> rfl), by repeat (first | (with_reducible first | exact HB.out | apply below_alloc | apply pw_below_drewN | apply below_drew1 | refine below_set ?_ (IsS49.ge HI180.out) | refine below_set ?_ GE185.out | refine below_set ?_ GE211.out) | exact HB.out)⟩
                          · rw [if_neg c48] at H
                            have c48b0 : (t212 == 0) = false := beq_eq_false_iff_ne.mpr c48
                            have c48b1 : (t212 != 0) = true := bne_iff_ne.mpr c48
                            obtain rfl := Option.some.inj H
                            go_wp2_with (first | ((with_reducible refine gate_callee (f := 11) rfl ?_); refine goesL_ (some 72) rfl rfl Try.func11 (by kernel_rfl) rfl #[.pointer (some ⟨g180, 0, none⟩)] rfl (by (try simp only [List.map_toArray, List.map_cons, List.map_nil]); first | done | rfl | (simp only [List.length_drop, List.length_take]; rfl)) ?_; (with_reducible refine (split_Splitter_Next.calls k3 g180 x181000_3 x181001_3 x181002_3 t202 t203 t204 t205 false t207 t208 t209 t210 w _ ?side1 ?side2 A39.out).mono ?_); (case side1 => repeat (first | (with_reducible first | exact HI180.out | apply IsS49.alloc | apply IsS49.drewN | apply IsS49.drew | apply IsS49.set_0 | apply IsS49.set_1 | apply IsS49.set_2 | refine IsS49.far ?_ NB180_185.out _) | exact HI180.out)); (case side2 => repeat (first | (with_reducible first | exact HB.out | apply below_alloc | apply pw_below_drewN | apply below_drew1 | refine below_set ?_ (IsS49.ge HI180.out) | refine below_set ?_ GE185.out) | exact HB.out)); rintro e w57 ⟨rfl, hi, hb, hk⟩; refine ⟨_, rfl, ?_⟩; have n0_ := Aside0.mk (KeepBut.blk hk (g' := gb185) (o := .cells #[.int .i64 4, .int .i64 1, .int .i64 0, .string (⟨#[]⟩ : ByteArray)] 28 (0, 0)) (by (with_reducible repeat (first | refine blk_drewN ?_ _ | refine blk_drew ?_ | refine blk_alloc ?_ _)); exact BK185.out) NB185_180.out (by simp)); have n1_ := Aside0.mk (hb); have n2_ := Aside0.mk (hi); clear BK185; clear HB; clear HI180; have BK185 := n0_; have HB := n1_; have HI180 := n2_; clear n0_ n1_ n2_; (try clear hb); (try clear hb2); (try clear hk); (try clear hi)) | ((with_reducible refine gate_dst (N := 12) rfl ?_); refine box_event ?hg (N := 12) ?hd (cs := #[.int .i64 0, .int .i64 0, .int .i64 0, .string (⟨#[]⟩ : ByteArray)]) (t := 28) ?hr ?_; (case hd => rfl); (case hg => rfl); (case hr => first | (go_simp; done) | (go_simp; rfl)); intro gb211 hg w58 hbox hb; have n0_ := Aside0.mk (blk_below (g := gb185) (o := .cells #[.int .i64 4, .int .i64 1, .int .i64 0, .string (⟨#[]⟩ : ByteArray)] 28 (0, 0)) (by (with_reducible repeat (first | refine blk_drewN ?_ _ | refine blk_drew ?_ | refine blk_alloc ?_ _)); exact BK185.out) hb); have n1_ := Aside0.mk (IsS49.below (by repeat (first | (with_reducible first | exact HI180.out | apply IsS49.alloc | apply IsS49.drewN | apply IsS49.drew | apply IsS49.set_0 | apply IsS49.set_1 | apply IsS49.set_2 | refine IsS49.far ?_ NB180_185.out _) | exact HI180.out)) hb); have n2_ := Aside0.mk (below_step (by repeat (first | (with_reducible first | exact HB.out | apply below_alloc | apply pw_below_drewN | apply below_drew1 | refine below_set ?_ (IsS49.ge HI180.out) | refine below_set ?_ GE185.out) | exact HB.out)) hb); have n3_ := Aside0.mk (hbox); have n4_ := Aside0.mk ((by rw [hg]; exact (below_size (by repeat (first | (with_reducible first | exact HB.out | apply below_alloc | apply pw_below_drewN | apply below_drew1 | refine below_set ?_ (IsS49.ge HI180.out) | refine below_set ?_ GE185.out) | exact HB.out))) : w.heap.size ≤ gb211)); have n5_ := Aside0.mk ((by rw [hg]; exact (below_size (by repeat (first | (with_reducible first | exact HB.out | apply below_alloc | apply pw_below_drewN | apply below_drew1 | refine below_set ?_ (IsS49.ge HI180.out) | refine below_set ?_ GE185.out) | exact HB.out))) : w.heap.size ≤ gb211)); have n6_ := Aside0.mk ((by rw [hg]; exact Nat.ne_of_lt (blk_lt (g := gb185) (o := .cells #[.int .i64 4, .int .i64 1, .int .i64 0, .string (⟨#[]⟩ : ByteArray)] 28 (0, 0)) (by (with_reducible repeat (first | refine blk_drewN ?_ _ | refine blk_drew ?_ | refine blk_alloc ?_ _)); exact BK185.out)) : gb185 ≠ gb211)); have n7_ := Aside0.mk ((by rw [hg]; exact Nat.ne_of_gt (blk_lt (g := gb185) (o := .cells #[.int .i64 4, .int .i64 1, .int .i64 0, .string (⟨#[]⟩ : ByteArray)] 28 (0, 0)) (by (with_reducible repeat (first | refine blk_drewN ?_ _ | refine blk_drew ?_ | refine blk_alloc ?_ _)); exact BK185.out)) : gb211 ≠ gb185)); have n8_ := Aside0.mk ((by rw [hg]; exact Nat.ne_of_lt (IsS49.lt (show IsS49 w _ g180 t208 t209 t210 from by repeat (first | (with_reducible first | exact HI180.out | apply IsS49.alloc | apply IsS49.drewN | apply IsS49.drew | apply IsS49.set_0 | apply IsS49.set_1 | apply IsS49.set_2 | refine IsS49.far ?_ NB180_185.out _) | exact HI180.out))) : g180 ≠ gb211)); have n9_ := Aside0.mk ((by rw [hg]; exact Nat.ne_of_gt (IsS49.lt (show IsS49 w _ g180 t208 t209 t210 from by repeat (first | (with_reducible first | exact HI180.out | apply IsS49.alloc | apply IsS49.drewN | apply IsS49.drew | apply IsS49.set_0 | apply IsS49.set_1 | apply IsS49.set_2 | refine IsS49.far ?_ NB180_185.out _) | exact HI180.out))) : gb211 ≠ g180)); clear BK185; clear HI180; clear HB; have BK185 := n0_; have HI180 := n1_; have HB := n2_; have BK211 := n3_; have GW211 := n4_; have GE211 := n5_; have NB185_211 := n6_; have NB211_185 := n7_; have NB180_211 := n8_; have NB211_180 := n9_; clear n0_ n1_ n2_ n3_ n4_ n5_ n6_ n7_ n8_ n9_; clear hb hbox hg; have hnb59 := NB211_185.out; have hnc59 := NB185_211.out; have hnb60 := NB211_180.out; have hnc60 := NB180_211.out; have hcz61_0 : w58.cell? ⟨gb211, 0, none⟩ = some (.int .i64 0) := (blk_cell BK211.out 0).trans rfl; have hcz61_1 : w58.cell? ⟨gb211, 1, none⟩ = some (.int .i64 0) := (blk_cell BK211.out 1).trans rfl; have hcz61_2 : w58.cell? ⟨gb211, 2, none⟩ = some (.int .i64 0) := (blk_cell BK211.out 2).trans rfl; have hcz61_3 : w58.cell? ⟨gb211, 3, none⟩ = some (.string (⟨#[]⟩ : ByteArray)) := (blk_cell BK211.out 3).trans rfl; have hfz61_0 := blk_frozen BK211.out 0; have hfz61_1 := blk_frozen BK211.out 1; have hfz61_2 := blk_frozen BK211.out 2; have hfz61_3 := blk_frozen BK211.out 3) | (go_at_call 13; (with_reducible refine (split_Splitter_Held.calls g180 t208 t209 t210 t212 t213 t214 t215 w _ ?side1 ?side2 A47.out).mono ?_); (case side1 => repeat (first | (with_reducible first | exact HI180.out | apply IsS49.alloc | apply IsS49.drewN | apply IsS49.drew | apply IsS49.set_0 | apply IsS49.set_1 | apply IsS49.set_2 | refine IsS49.far ?_ NB180_185.out _ | refine IsS49.far ?_ NB180_211.out _) | exact HI180.out)); (case side2 => repeat (first | (with_reducible first | exact HB.out | apply below_alloc | apply pw_below_drewN | apply below_drew1 | refine below_set ?_ (IsS49.ge HI180.out) | refine below_set ?_ GE185.out | refine below_set ?_ GE211.out) | exact HB.out)); rintro e w62 ⟨rfl, hi, hb, hk⟩; have n0_ := Aside0.mk (KeepBut.blk hk (g' := gb185) (o := .cells #[.int .i64 4, .int .i64 1, .int .i64 0, .string (⟨#[]⟩ : ByteArray)] 28 (0, 0)) (by (with_reducible repeat (first | refine blk_drewN ?_ _ | refine blk_drew ?_ | refine blk_alloc ?_ _)); refine blk_far ?_ NB185_211.out _; (with_reducible repeat (first | refine blk_drewN ?_ _ | refine blk_drew ?_ | refine blk_alloc ?_ _)); refine blk_far ?_ NB185_211.out _; (with_reducible repeat (first | refine blk_drewN ?_ _ | refine blk_drew ?_ | refine blk_alloc ?_ _)); refine blk_far ?_ NB185_211.out _; (with_reducible repeat (first | refine blk_drewN ?_ _ | refine blk_drew ?_ | refine blk_alloc ?_ _)); refine blk_far ?_ NB185_211.out _; (with_reducible repeat (first | refine blk_drewN ?_ _ | refine blk_drew ?_ | refine blk_alloc ?_ _)); exact BK185.out) NB185_180.out (by simp)); have n1_ := Aside0.mk (KeepBut.blk hk (g' := gb211) (o := .cells #[.int .i64 t202, .int .i64 t203, .int .i64 t204, .string t205] 28 (0, 0)) (by (with_reducible repeat (first | refine blk_drewN ?_ _ | refine blk_drew ?_ | refine blk_alloc ?_ _)); refine blk_put (cs := #[.int .i64 t202, .int .i64 t203, .int .i64 t204, .string (⟨#[]⟩ : ByteArray)]) ?_ 3 _ rfl; (with_reducible repeat (first | refine blk_drewN ?_ _ | refine blk_drew ?_ | refine blk_alloc ?_ _)); refine blk_put (cs := #[.int .i64 t202, .int .i64 t203, .int .i64 0, .string (⟨#[]⟩ : ByteArray)]) ?_ 2 _ rfl; (with_reducible repeat (first | refine blk_drewN ?_ _ | refine blk_drew ?_ | refine blk_alloc ?_ _)); refine blk_put (cs := #[.int .i64 t202, .int .i64 0, .int .i64 0, .string (⟨#[]⟩ : ByteArray)]) ?_ 1 _ rfl; (with_reducible repeat (first | refine blk_drewN ?_ _ | refine blk_drew ?_ | refine blk_alloc ?_ _)); refine blk_put (cs := #[.int .i64 0, .int .i64 0, .int .i64 0, .string (⟨#[]⟩ : ByteArray)]) ?_ 0 _ rfl; (with_reducible repeat (first | refine blk_drewN ?_ _ | refine blk_drew ?_ | refine blk_alloc ?_ _)); exact BK211.out) NB211_180.out (by simp)); have n2_ := Aside0.mk (hb); have n3_ := Aside0.mk (hi); clear BK185; clear BK211; clear HB; clear HI180; have BK185 := n0_; have BK211 := n1_; have HB := n2_; have HI180 := n3_; clear n0_ n1_ n2_ n3_; (try clear hb); (try clear hb2); (try clear hk); (try clear hi)))
                            go_ret
                            exact ⟨by first | rfl | (simp [errW_none, errW_some] <;> rfl) | (simp [*, errW_none, errW_some] <;> rfl), by repeat (first | (with_reducible first | exact HB.out | apply below_alloc | apply pw_below_drewN | apply below_drew1 | refine below_set ?_ (IsS49.ge HI180.out) | refine below_set ?_ GE185.out | refine below_set ?_ GE211.out) | exact HB.out)⟩
                        · rw [if_neg c46] at H
                          have c46b0 : (t207 == 0) = false := beq_eq_false_iff_ne.mpr c46
                          have c46b1 : (t207 != 0) = true := bne_iff_ne.mpr c46
                          obtain rfl := Option.some.inj H
                          go_wp2_with (first | ((with_reducible refine gate_callee (f := 11) rfl ?_); refine goesL_ (some 72) rfl rfl Try.func11 (by kernel_rfl) rfl #[.pointer (some ⟨g180, 0, none⟩)] rfl (by (try simp only [List.map_toArray, List.map_cons, List.map_nil]); first | done | rfl | (simp only [List.length_drop, List.length_take]; rfl)) ?_; (with_reducible refine (split_Splitter_Next.calls k3 g180 x181000_3 x181001_3 x181002_3 t202 t203 t204 t205 false t207 t208 t209 t210 w _ ?side1 ?side2 A39.out).mono ?_); (case side1 => repeat (first | (with_reducible first | exact HI180.out | apply IsS49.alloc | apply IsS49.drewN | apply IsS49.drew | apply IsS49.set_0 | apply IsS49.set_1 | apply IsS49.set_2 | refine IsS49.far ?_ NB180_185.out _) | exact HI180.out)); (case side2 => repeat (first | (with_reducible first | exact HB.out | apply below_alloc | apply pw_below_drewN | apply below_drew1 | refine below_set ?_ (IsS49.ge HI180.out) | refine below_set ?_ GE185.out) | exact HB.out)); rintro e w63 ⟨rfl, hi, hb, hk⟩; refine ⟨_, rfl, ?_⟩; have n0_ := Aside0.mk (KeepBut.blk hk (g' := gb185) (o := .cells #[.int .i64 4, .int .i64 1, .int .i64 0, .string (⟨#[]⟩ : ByteArray)] 28 (0, 0)) (by (with_reducible repeat (first | refine blk_drewN ?_ _ | refine blk_drew ?_ | refine blk_alloc ?_ _)); exact BK185.out) NB185_180.out (by simp)); have n1_ := Aside0.mk (hb); have n2_ := Aside0.mk (hi); clear BK185; clear HB; clear HI180; have BK185 := n0_; have HB := n1_; have HI180 := n2_; clear n0_ n1_ n2_; (try clear hb); (try clear hb2); (try clear hk); (try clear hi)) | ((with_reducible refine gate_dst (N := 12) rfl ?_); refine box_event ?hg (N := 12) ?hd (cs := #[.int .i64 0, .int .i64 0, .int .i64 0, .string (⟨#[]⟩ : ByteArray)]) (t := 28) ?hr ?_; (case hd => rfl); (case hg => rfl); (case hr => first | (go_simp; done) | (go_simp; rfl)); intro gb211 hg w64 hbox hb; have n0_ := Aside0.mk (blk_below (g := gb185) (o := .cells #[.int .i64 4, .int .i64 1, .int .i64 0, .string (⟨#[]⟩ : ByteArray)] 28 (0, 0)) (by (with_reducible repeat (first | refine blk_drewN ?_ _ | refine blk_drew ?_ | refine blk_alloc ?_ _)); exact BK185.out) hb); have n1_ := Aside0.mk (IsS49.below (by repeat (first | (with_reducible first | exact HI180.out | apply IsS49.alloc | apply IsS49.drewN | apply IsS49.drew | apply IsS49.set_0 | apply IsS49.set_1 | apply IsS49.set_2 | refine IsS49.far ?_ NB180_185.out _) | exact HI180.out)) hb); have n2_ := Aside0.mk (below_step (by repeat (first | (with_reducible first | exact HB.out | apply below_alloc | apply pw_below_drewN | apply below_drew1 | refine below_set ?_ (IsS49.ge HI180.out) | refine below_set ?_ GE185.out) | exact HB.out)) hb); have n3_ := Aside0.mk (hbox); have n4_ := Aside0.mk ((by rw [hg]; exact (below_size (by repeat (first | (with_reducible first | exact HB.out | apply below_alloc | apply pw_below_drewN | apply below_drew1 | refine below_set ?_ (IsS49.ge HI180.out) | refine below_set ?_ GE185.out) | exact HB.out))) : w.heap.size ≤ gb211)); have n5_ := Aside0.mk ((by rw [hg]; exact (below_size (by repeat (first | (with_reducible first | exact HB.out | apply below_alloc | apply pw_below_drewN | apply below_drew1 | refine below_set ?_ (IsS49.ge HI180.out) | refine below_set ?_ GE185.out) | exact HB.out))) : w.heap.size ≤ gb211)); have n6_ := Aside0.mk ((by rw [hg]; exact Nat.ne_of_lt (blk_lt (g := gb185) (o := .cells #[.int .i64 4, .int .i64 1, .int .i64 0, .string (⟨#[]⟩ : ByteArray)] 28 (0, 0)) (by (with_reducible repeat (first | refine blk_drewN ?_ _ | refine blk_drew ?_ | refine blk_alloc ?_ _)); exact BK185.out)) : gb185 ≠ gb211)); have n7_ := Aside0.mk ((by rw [hg]; exact Nat.ne_of_gt (blk_lt (g := gb185) (o := .cells #[.int .i64 4, .int .i64 1, .int .i64 0, .string (⟨#[]⟩ : ByteArray)] 28 (0, 0)) (by (with_reducible repeat (first | refine blk_drewN ?_ _ | refine blk_drew ?_ | refine blk_alloc ?_ _)); exact BK185.out)) : gb211 ≠ gb185)); have n8_ := Aside0.mk ((by rw [hg]; exact Nat.ne_of_lt (IsS49.lt (show IsS49 w _ g180 t208 t209 t210 from by repeat (first | (with_reducible first | exact HI180.out | apply IsS49.alloc | apply IsS49.drewN | apply IsS49.drew | apply IsS49.set_0 | apply IsS49.set_1 | apply IsS49.set_2 | refine IsS49.far ?_ NB180_185.out _) | exact HI180.out))) : g180 ≠ gb211)); have n9_ := Aside0.mk ((by rw [hg]; exact Nat.ne_of_gt (IsS49.lt (show IsS49 w _ g180 t208 t209 t210 from by repeat (first | (with_reducible first | exact HI180.out | apply IsS49.alloc | apply IsS49.drewN | apply IsS49.drew | apply IsS49.set_0 | apply IsS49.set_1 | apply IsS49.set_2 | refine IsS49.far ?_ NB180_185.out _) | exact HI180.out))) : gb211 ≠ g180)); clear BK185; clear HI180; clear HB; have BK185 := n0_; have HI180 := n1_; have HB := n2_; have BK211 := n3_; have GW211 := n4_; have GE211 := n5_; have NB185_211 := n6_; have NB211_185 := n7_; have NB180_211 := n8_; have NB211_180 := n9_; clear n0_ n1_ n2_ n3_ n4_ n5_ n6_ n7_ n8_ n9_; clear hb hbox hg; have hnb65 := NB211_185.out; have hnc65 := NB185_211.out; have hnb66 := NB211_180.out; have hnc66 := NB180_211.out; have hcz67_0 : w64.cell? ⟨gb211, 0, none⟩ = some (.int .i64 0) := (blk_cell BK211.out 0).trans rfl; have hcz67_1 : w64.cell? ⟨gb211, 1, none⟩ = some (.int .i64 0) := (blk_cell BK211.out 1).trans rfl; have hcz67_2 : w64.cell? ⟨gb211, 2, none⟩ = some (.int .i64 0) := (blk_cell BK211.out 2).trans rfl; have hcz67_3 : w64.cell? ⟨gb211, 3, none⟩ = some (.string (⟨#[]⟩ : ByteArray)) := (blk_cell BK211.out 3).trans rfl; have hfz67_0 := blk_frozen BK211.out 0; have hfz67_1 := blk_frozen BK211.out 1; have hfz67_2 := blk_frozen BK211.out 2; have hfz67_3 := blk_frozen BK211.out 3))
                          go_ret
                          exact ⟨by first | rfl | (simp [errW_none, errW_some] <;> rfl) | (simp [*, errW_none, errW_some] <;> rfl), by repeat (first | (with_reducible first | exact HB.out | apply below_alloc | apply pw_below_drewN | apply below_drew1 | refine below_set ?_ (IsS49.ge HI180.out) | refine below_set ?_ GE185.out | refine below_set ?_ GE211.out) | exact HB.out)⟩
        · rw [if_neg c12] at H
          have c12b0 : (t181 == 0) = false := beq_eq_false_iff_ne.mpr c12
          have c12b1 : (t181 != 0) = true := bne_iff_ne.mpr c12
          obtain rfl := Option.some.inj H
          go_wp2_with (first | ((with_reducible refine gate_callee (f := 10) rfl ?_); refine goesL_ (some 26) rfl rfl Try.func10 (by kernel_rfl) rfl #[.int .i64 64] rfl (by (try simp only [List.map_toArray, List.map_cons, List.map_nil]); first | done | rfl | (simp only [List.length_drop, List.length_take]; rfl)) ?_; (with_reducible refine (split_New.calls 64 t177 t178 t179 w _ ?side1 A10.out).mono ?_); (case side1 => repeat (first | (with_reducible first | exact HB.out | apply below_alloc | apply pw_below_drewN | apply below_drew1) | exact HB.out)); rintro e w68 ⟨g180, rfl, hi, hb, hb2⟩; refine ⟨_, rfl, ?_⟩; have n0_ := Aside0.mk (hb); have n1_ := Aside0.mk (hi); clear HB; have HB := n0_; have HI180 := n1_; clear n0_ n1_; (try clear hb); (try clear hb2); (try clear hk); (try clear hi)) | (go_at_call 12; (with_reducible refine (split_Splitter_Feed.calls g180 t177 t178 t179 (⟨#[]⟩ : ByteArray) t181 t182 t183 t184 w _ ?side1 ?side2 A11.out).mono ?_); (case side1 => repeat (first | (with_reducible first | exact HI180.out | apply IsS49.alloc | apply IsS49.drewN | apply IsS49.drew | apply IsS49.set_0 | apply IsS49.set_1 | apply IsS49.set_2) | exact HI180.out)); (case side2 => repeat (first | (with_reducible first | exact HB.out | apply below_alloc | apply pw_below_drewN | apply below_drew1 | refine below_set ?_ (IsS49.ge HI180.out)) | exact HB.out)); rintro e w69 ⟨rfl, hi, hb, hk⟩; have n0_ := Aside0.mk (hb); have n1_ := Aside0.mk (hi); clear HB; clear HI180; have HB := n0_; have HI180 := n1_; clear n0_ n1_; (try clear hb); (try clear hb2); (try clear hk); (try clear hi)))
          go_ret
          exact ⟨by first | rfl | (simp [errW_none, errW_some] <;> rfl) | (simp [*, errW_none, errW_some] <;> rfl), by repeat (first | (with_reducible first | exact HB.out | apply below_alloc | apply pw_below_drewN | apply below_drew1 | refine below_set ?_ (IsS49.ge HI180.out)) | exact HB.out)⟩

/-- THE ONE PURE STATEMENT of bywashlaw8_SplitEmpty: yours. -/
def bywashlaw8_SplitEmpty.Pure : Prop := ∀ (a0 : Int), (Lit.int .i64 a0).wf = true → ∃ k, bywashlaw8_SplitEmpty.f k a0 = some true
theorem bywashlaw8_SplitEmpty.walk (P : bywashlaw8_SplitEmpty.Pure) (a0 : Int) (w : World) (w0 : (Lit.int .i64 a0).wf = true) :
    Calls Try.prog 7 #[.int .i64 a0] w fun e w' => e = .returned (.bool true) ∧ Below w.heap.size w w' := by
  obtain ⟨k, h⟩ := P a0 w0
  refine (bywashlaw8_SplitEmpty.calls k a0 true w h).mono ?_
  rintro e w' ⟨rfl, hd⟩
  exact ⟨rfl, hd⟩

end Go.Proofs.Ytcbikdnibjjnbaa.PSplitEmpty
