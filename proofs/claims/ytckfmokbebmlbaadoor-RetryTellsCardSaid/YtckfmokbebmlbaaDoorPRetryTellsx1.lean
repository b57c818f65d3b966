-- PRINTED BY print.sh 35421559b90ae4d0a3588c463048766b98c2df88dd9212a6774a882060cdf62d: not written by this session
import Derived.Test.YtckfmokbebmlbaaDoorPRetryTellsx0
namespace Go.Proofs.YtckfmokbebmlbaaDoor.PRetryTells
open Go.RowKit Go.Proofs.YtckfmokbebmlbaaDoorW.PrintWords Go.Proofs.YtckfmokbebmlbaaDoorW.PrintLast Go.Proofs.YtckfmokbebmlbaaDoorW.PrintMore
attribute [local go_sem] max2_int min2_int max_two min_two max_three min_three max_four min_four   -- for this text's walks alone
set_option linter.unusedVariables false
set_option linter.unusedSimpArgs false

/-! ### retry_Final: function 7 -/
def retry_Final.j0 : Nat → Int → Bool → Option (Bool)
  | 0, _, _ => none
  | k + 1, x3, x4 => if x4 = true then (some false) else (if x3 = 19 then (some false) else (if x3 = 16 then (some false) else (if x3 = 20 then (some false) else (if x3 = 18 then (some false) else (some true)))))
def retry_Final.f (k : Nat) (a0 : Int) : Option (Bool) := if a0 = 15 then (retry_Final.j0 k a0 (a0 == 15)) else (retry_Final.j0 k a0 (a0 == 14))
theorem retry_Final.mono_l : ∀ k, (∀ y0 y1, LeO (retry_Final.j0 k y0 y1) (retry_Final.j0 (k + 1) y0 y1))
  | 0 => fun _ _ r h => by simp [retry_Final.j0] at h
  | k + 1 => by
    have ih0 := retry_Final.mono_l k
    · intro y0 y1
      unfold retry_Final.j0
      repeat' first
      | (with_reducible exact ih0 _ _)
      | (with_reducible exact LeO.refl _)
      | (with_reducible exact LeO.none _)
      | (with_reducible refine LeO.ite ?_ ?_)
      | (with_reducible refine LeO.bind ?_ (fun _ => ?_))
      | exact ih0 _ _
      | exact LeO.none _
      | refine LeO.ite ?_ ?_
      | refine LeO.bind ?_ (fun _ => ?_)
theorem retry_Final.mono : ∀ a0 k, LeO (retry_Final.f k a0) (retry_Final.f (k + 1) a0) := by
  intro a0 k
  have ih0 := retry_Final.mono_l k
  unfold retry_Final.f
  repeat' first
      | (with_reducible exact ih0 _ _)
      | (with_reducible exact LeO.refl _)
      | (with_reducible exact LeO.none _)
      | (with_reducible refine LeO.ite ?_ ?_)
      | (with_reducible refine LeO.bind ?_ (fun _ => ?_))
      | exact ih0 _ _
      | exact LeO.none _
      | refine LeO.ite ?_ ?_
      | refine LeO.bind ?_ (fun _ => ?_)
set_option maxHeartbeats 8000000 in
set_option maxRecDepth 100000 in
theorem retry_Final.calls (k : Nat) (a0 : Int) (r : Bool) (w : World) (h : retry_Final.f k a0 = some r) :
    Calls Tryd.prog 7 #[.int .i64 a0] w fun e w' => e = .returned (.bool r) ∧ Drawn0 w w' := by
  have H : (if a0 = 15 then (retry_Final.j0 k a0 (a0 == 15)) else (retry_Final.j0 k a0 (a0 == 14))) = some r := h
  clear h
  have HC2 := Aside0.mk H
  clear H
  go_enter Tryd.func7, Tryd.ntmps7
  go_upto_if 4 with (fail)
  go_cut [4] (fun v4 wc => ∃ (kq : Nat) (x4_1 : Bool), v4 = .bool x4_1 ∧ Aside0 (retry_Final.j0 kq a0 x4_1 = some r) ∧ Aside0 (kq ≤ k) ∧ Drawn0 w wc)
  case first =>
    have H := HC2.out
    clear HC2
    by_cases c3 : a0 = 15
    · rw [if_pos c3] at H
      have c3b0 : (a0 == 15) = true := beq_iff_eq.mpr c3
      have c3b1 : (a0 != 15) = false := bne_eq_false_iff_eq.mpr c3
      clear c3
      (first | rw [c3b0] | (simp only [i64_w, i32_w]; rw [c3b0]) | skip)
      have H' := Aside0.mk H
      clear H
      go_wp2
      go_meet
      case rel => exact ⟨_, ((a0 == 15)), (by first | rfl | (simp; done) | (simp [*]; done)), H', ⟨by first | omega | exact Nat.le_refl _⟩, by repeat (first | exact Drawn0.refl _ | apply Drawn0.step)⟩
    · rw [if_neg c3] at H
      have c3b0 : (a0 == 15) = false := beq_eq_false_iff_ne.mpr c3
      have c3b1 : (a0 != 15) = true := bne_iff_ne.mpr c3
      (first | rw [c3b0] | (simp only [i64_w, i32_w]; rw [c3b0]) | skip)
      have H' := Aside0.mk H
      clear H
      go_wp2
      go_meet
      case rel => exact ⟨_, ((a0 == 14)), (by first | rfl | (simp; done) | (simp [*]; done)), H', ⟨by first | omega | exact Nat.le_refl _⟩, by repeat (first | exact Drawn0.refl _ | apply Drawn0.step)⟩
  case rest =>
    clear HC2
    try clear p2
    try clear c3
    try clear c3b0
    try clear c3b1
    obtain ⟨kq, x4_1, rfl, HA, HJ1, ⟨mc1, rfl⟩⟩ := hcut
    cases kq with
    | zero => exact absurd HA.out (by simp [retry_Final.j0])
    | succ kj1 =>
      have H := HA.out
      clear HA
      simp only [retry_Final.j0] at H
      by_cases c4 : x4_1 = true
      · subst c4
        have H1 : (some false) = some r := by rw [if_pos rfl] at H; exact H
        clear H
        have H := H1
        clear H1
        obtain rfl := Option.some.inj H
        go_wp2
        go_ret
        exact ⟨by first | rfl | (simp; done) | (simp [*]; done), by repeat (first | exact Drawn0.refl _ | apply Drawn0.step)⟩
      · replace c4 := Bool.eq_false_iff.mpr c4
        subst c4
        have H1 : (if a0 = 19 then (some false) else (if a0 = 16 then (some false) else (if a0 = 20 then (some false) else (if a0 = 18 then (some false) else (some true))))) = some r := by rw [if_neg (show ¬ (false = true) by decide)] at H; exact H
        clear H
        have H := H1
        clear H1
        by_cases c5 : a0 = 19
        · rw [if_pos c5] at H
          have c5b0 : (a0 == 19) = true := beq_iff_eq.mpr c5
          have c5b1 : (a0 != 19) = false := bne_eq_false_iff_eq.mpr c5
          clear c5
          obtain rfl := Option.some.inj H
          go_wp2
          go_ret
          exact ⟨by first | rfl | (simp; done) | (simp [*]; done), by repeat (first | exact Drawn0.refl _ | apply Drawn0.step)⟩
        · rw [if_neg c5] at H
          have c5b0 : (a0 == 19) = false := beq_eq_false_iff_ne.mpr c5
          have c5b1 : (a0 != 19) = true := bne_iff_ne.mpr c5
          by_cases c6 : a0 = 16
          · rw [if_pos c6] at H
            have c6b0 : (a0 == 16) = true := beq_iff_eq.mpr c6
            have c6b1 : (a0 != 16) = false := bne_eq_false_iff_eq.mpr c6
            clear c6
            obtain rfl := Option.some.inj H
            go_wp2
            go_ret
            exact ⟨by first | rfl | (simp; done) | (simp [*]; done), by repeat (first | exact Drawn0.refl _ | apply Drawn0.step)⟩
          · rw [if_neg c6] at H
            have c6b0 : (a0 == 16) = false := beq_eq_false_iff_ne.mpr c6
            have c6b1 : (a0 != 16) = true := bne_iff_ne.mpr c6
            by_cases c7 : a0 = 20
            · rw [if_pos c7] at H
              have c7b0 : (a0 == 20) = true := beq_iff_eq.mpr c7
              have c7b1 : (a0 != 20) = false := bne_eq_false_iff_eq.mpr c7
              clear c7
              obtain rfl := Option.some.inj H
              go_wp2
              go_ret
              exact ⟨by first | rfl | (simp; done) | (simp [*]; done), by repeat (first | exact Drawn0.refl _ | apply Drawn0.step)⟩
            · rw [if_neg c7] at H
              have c7b0 : (a0 == 20) = false := beq_eq_false_iff_ne.mpr c7
              have c7b1 : (a0 != 20) = true := bne_iff_ne.mpr c7
              by_cases c8 : a0 = 18
              · rw [if_pos c8] at H
                have c8b0 : (a0 == 18) = true := beq_iff_eq.mpr c8
                have c8b1 : (a0 != 18) = false := bne_eq_false_iff_eq.mpr c8
                clear c8
                obtain rfl := Option.some.inj H
                go_wp2
                go_ret
                exact ⟨by first | rfl | (simp; done) | (simp [*]; done), by repeat (first | exact Drawn0.refl _ | apply Drawn0.step)⟩
              · rw [if_neg c8] at H
                have c8b0 : (a0 == 18) = false := beq_eq_false_iff_ne.mpr c8
                have c8b1 : (a0 != 18) = true := bne_iff_ne.mpr c8
                obtain rfl := Option.some.inj H
                go_wp2
                go_ret
                exact ⟨by first | rfl | (simp; done) | (simp [*]; done), by repeat (first | exact Drawn0.refl _ | apply Drawn0.step)⟩

-- NOT PRINTED: function 14 (fail_New)

-- NOT PRINTED: function 23 (reflectlite_TypeOf)

-- NOT PRINTED: function 24 (errors_is)

-- NOT PRINTED: function 13 (errors_Is)

-- NOT PRINTED: function 15 (retry_untouched)

/-! ### slices_Index_string_string: function 28 -/
def slices_Index_string_string.l0 : Nat → List ByteArray → ByteArray → Int → Int → Option (Int)
  | 0, _, _, _, _ => none
  | k + 1, x0, x1, x7, x8 => if x8 < x7 then (if 0 ≤ x8 then (if x8 < (x0.length : Int) then (if x1.toList = (rdOf ByteArray.empty x0 x8).toList then (some x8) else (slices_Index_string_string.l0 k x0 x1 x7 (wrap64 (x8 + 1)))) else (none)) else (none)) else (some (-1))
def slices_Index_string_string.f (k : Nat) (l0 : List ByteArray) (a1 : ByteArray) : Option (Int) := slices_Index_string_string.l0 k l0 a1 (l0.length : Int) 0
theorem slices_Index_string_string.mono_l : ∀ k, (∀ y0 y1 y2 y3, LeO (slices_Index_string_string.l0 k y0 y1 y2 y3) (slices_Index_string_string.l0 (k + 1) y0 y1 y2 y3))
  | 0 => fun _ _ _ _ r h => by simp [slices_Index_string_string.l0] at h
  | k + 1 => by
    have ih0 := slices_Index_string_string.mono_l k
    · intro y0 y1 y2 y3
      unfold slices_Index_string_string.l0
      repeat' first
      | (with_reducible exact ih0 _ _ _ _)
      | (with_reducible exact LeO.refl _)
      | (with_reducible exact LeO.none _)
      | (with_reducible refine LeO.ite ?_ ?_)
      | (with_reducible refine LeO.bind ?_ (fun _ => ?_))
      | exact ih0 _ _ _ _
      | exact LeO.none _
      | refine LeO.ite ?_ ?_
      | refine LeO.bind ?_ (fun _ => ?_)
theorem slices_Index_string_string.mono : ∀ a0 a1 k, LeO (slices_Index_string_string.f k a0 a1) (slices_Index_string_string.f (k + 1) a0 a1) := by
  intro a0 a1 k
  have ih0 := slices_Index_string_string.mono_l k
  unfold slices_Index_string_string.f
  repeat' first
      | (with_reducible exact ih0 _ _ _ _)
      | (with_reducible exact LeO.refl _)
      | (with_reducible exact LeO.none _)
      | (with_reducible refine LeO.ite ?_ ?_)
      | (with_reducible refine LeO.bind ?_ (fun _ => ?_))
      | exact ih0 _ _ _ _
      | exact LeO.none _
      | refine LeO.ite ?_ ?_
      | refine LeO.bind ?_ (fun _ => ?_)
set_option maxHeartbeats 8000000 in
set_option maxRecDepth 100000 in
theorem slices_Index_string_string.calls (k : Nat) (A0 : Option Addr) (c0 : Nat) (l0 : List ByteArray) (a1 : ByteArray) (r : Int) (w : World) (hr0 : Kd.C Kd.string w A0 l0.length l0) (hc0 : l0.length ≤ c0) (h : slices_Index_string_string.f k l0 a1 = some r) :
    Calls Tryd.prog 28 #[.slice A0 l0.length c0, .string a1] w fun e w' => e = .returned (.int .i64 r) ∧ Drawn0 w w' := by
  have HR0 := Aside0.mk hr0
  have HC0 := Aside0.mk hc0
  clear hr0 hc0
  have H : (slices_Index_string_string.l0 k l0 a1 (l0.length : Int) 0) = some r := h
  clear h
  have H' := Aside0.mk H
  clear H
  go_enter Tryd.func28, Tryd.ntmps28
  go_wp2
  go_loopg [8] k (fun kq v8 w' => ∃ (x8_1 : Int), v8 = .int .i64 x8_1 ∧ Aside0 (slices_Index_string_string.l0 kq l0 a1 (l0.length : Int) x8_1 = some r) ∧ Aside0 (kq ≤ k) ∧ Drawn0 w w')
  case atStart => exact ⟨(0), (by first | rfl | (simp; done) | (simp [*]; done)), H', ⟨Nat.le_refl _⟩, by repeat (first | exact Drawn0.refl _ | apply Drawn0.step)⟩
  case round =>
    clear H'
    try clear c2
    try clear p2
    obtain ⟨x8_1, rfl, HA, HK1, ⟨m1, rfl⟩⟩ := hrel
    cases gk with
    | zero => exact absurd HA.out (by simp [slices_Index_string_string.l0])
    | succ k1 =>
      have H := HA.out
      clear HA
      simp only [slices_Index_string_string.l0] at H
      by_cases c3 : x8_1 < (l0.length : Int)
      · rw [if_pos c3] at H
        have c3b0 : decide (x8_1 < (l0.length : Int)) = true := decide_eq_true c3
        clear c3
        by_cases c4 : 0 ≤ x8_1
        · rw [if_pos c4] at H
          have c4b0 : decide (0 ≤ x8_1) = true := decide_eq_true c4
          clear c4
          by_cases c5 : x8_1 < (l0.length : Int)
          · rw [if_pos c5] at H
            have c5b0 : decide (x8_1 < (l0.length : Int)) = true := decide_eq_true c5
            clear c5
            by_cases c6 : a1.toList = (rdOf ByteArray.empty l0 x8_1).toList
            · rw [if_pos c6] at H
              have c6b0 : (a1.toList == (rdOf ByteArray.empty l0 x8_1).toList) = true := beq_iff_eq.mpr c6
              have c6b1 : (a1.toList != (rdOf ByteArray.empty l0 x8_1).toList) = false := bne_eq_false_iff_eq.mpr c6
              clear c6
              obtain rfl := Option.some.inj H
              have p103 : 0 ≤ (x8_1 : Int) := of_decide_eq_true (by first | (with_reducible assumption) | assumption)
              have q103 : x8_1 < (l0.length : Int) := of_decide_eq_true (by first | (with_reducible assumption) | assumption)
              obtain ⟨ad103, e103, hx103_0⟩ := Kd.at_string HR0.out x8_1 p103 q103
              cases e103
              replace p103 := eq_true p103
              replace q103 := eq_true q103
              go_wp2
              go_ret
              exact ⟨by first | rfl | (simp; done) | (simp [*]; done), by repeat (first | exact Drawn0.refl _ | apply Drawn0.step)⟩
            · rw [if_neg c6] at H
              have c6b0 : (a1.toList == (rdOf ByteArray.empty l0 x8_1).toList) = false := beq_eq_false_iff_ne.mpr c6
              have c6b1 : (a1.toList != (rdOf ByteArray.empty l0 x8_1).toList) = true := bne_iff_ne.mpr c6
              have H' := Aside0.mk H
              clear H
              have p103 : 0 ≤ (x8_1 : Int) := of_decide_eq_true (by first | (with_reducible assumption) | assumption)
              have q103 : x8_1 < (l0.length : Int) := of_decide_eq_true (by first | (with_reducible assumption) | assumption)
              obtain ⟨ad103, e103, hx103_0⟩ := Kd.at_string HR0.out x8_1 p103 q103
              cases e103
              replace p103 := eq_true p103
              replace q103 := eq_true q103
              go_wp2
              go_roundg k1
              case measure => have := HK1.out; omega
              case rel => exact ⟨(wrap64 (x8_1 + 1)), (by first | rfl | (simp; done) | (simp [*]; done)), H', ⟨by have := HK1.out; omega⟩, by repeat (first | exact Drawn0.refl _ | apply Drawn0.step)⟩
          · rw [if_neg c5] at H
            exact absurd H (by simp)
        · rw [if_neg c4] at H
          exact absurd H (by simp)
      · rw [if_neg c3] at H
        have c3b0 : decide (x8_1 < (l0.length : Int)) = false := decide_eq_false c3
        clear c3
        obtain rfl := Option.some.inj H
        go_wp2
        go_ret
        exact ⟨by first | rfl | (simp; done) | (simp [*]; done), by repeat (first | exact Drawn0.refl _ | apply Drawn0.step)⟩

/-! ### slices_Contains_string_string: function 25 -/
def slices_Contains_string_string.f (k : Nat) (l0 : List ByteArray) (a1 : ByteArray) : Option (Bool) := (slices_Index_string_string.f k l0 a1).bind fun t104 => (some (decide (t104 ≥ 0)))
theorem slices_Contains_string_string.mono : ∀ a0 a1 k, LeO (slices_Contains_string_string.f k a0 a1) (slices_Contains_string_string.f (k + 1) a0 a1) := by
  intro a0 a1 k
  unfold slices_Contains_string_string.f
  repeat' first
      | (with_reducible exact slices_Index_string_string.mono _ _ _)
      | (with_reducible exact LeO.refl _)
      | (with_reducible exact LeO.none _)
      | (with_reducible refine LeO.ite ?_ ?_)
      | (with_reducible refine LeO.bind ?_ (fun _ => ?_))
      | exact slices_Index_string_string.mono _ _ _
      | exact LeO.none _
      | refine LeO.ite ?_ ?_
      | refine LeO.bind ?_ (fun _ => ?_)
set_option maxHeartbeats 8000000 in
set_option maxRecDepth 100000 in
theorem slices_Contains_string_string.calls (k : Nat) (A0 : Option Addr) (c0 : Nat) (l0 : List ByteArray) (a1 : ByteArray) (r : Bool) (w : World) (hr0 : Kd.C Kd.string w A0 l0.length l0) (hc0 : l0.length ≤ c0) (h : slices_Contains_string_string.f k l0 a1 = some r) :
    Calls Tryd.prog 25 #[.slice A0 l0.length c0, .string a1] w fun e w' => e = .returned (.bool r) ∧ Drawn0 w w' := by
  have HR0 := Aside0.mk hr0
  have HC0 := Aside0.mk hc0
  clear hr0 hc0
  have H : ((slices_Index_string_string.f k l0 a1).bind fun t104 => (some (decide (t104 ≥ 0)))) = some r := h
  clear h
  replace H := Option.bind_eq_some_iff.mp H
  obtain ⟨t104, A30, H⟩ := H
  replace H : (some (decide (t104 ≥ 0))) = some r := H
  have A3 := Aside0.mk A30
  clear A30
  obtain rfl := Option.some.inj H
  go_enter Tryd.func25, Tryd.ntmps25
  go_wp2_with (first | ((with_reducible refine gate_callee (f := 28) rfl ?_); refine goesL_ (some 7) rfl rfl Tryd.func28 (by kernel_rfl) rfl #[.slice A0 l0.length c0, .string a1] rfl (by (try simp only [List.map_toArray, List.map_cons, List.map_nil]); first | done | rfl | (simp only [List.length_drop, List.length_take]; rfl)) ?_; (with_reducible refine (slices_Index_string_string.calls k _ _ l0 a1 t104 _ ?side1 ?side2 A3.out).mono ?_); (case side1 => repeat (first | exact HR0.out | (with_reducible refine Kd.C_alloc ?_ _) | (with_reducible refine Kd.C_drewN ?_ _) | (with_reducible refine Kd.C_drew ?_))); (case side2 => exact HC0.out); rintro e w' ⟨rfl, ⟨nd, rfl⟩⟩; refine ⟨_, rfl, ?_⟩))
  go_ret
  exact ⟨by first | rfl | (simp; done) | (simp [*]; done), by repeat (first | exact Drawn0.refl _ | apply Drawn0.step)⟩

/-! ### message_Safe: function 16 -/
def message_Safe.f (k : Nat) (a0 : ByteArray) : Option (Bool) := (slices_Contains_string_string.f k (([(⟨#[71, 69, 84]⟩ : ByteArray), (⟨#[72, 69, 65, 68]⟩ : ByteArray), (⟨#[80, 85, 84]⟩ : ByteArray), (⟨#[68, 69, 76, 69, 84, 69]⟩ : ByteArray), (⟨#[79, 80, 84, 73, 79, 78, 83]⟩ : ByteArray)] : List ByteArray)) a0).bind fun t108 => (some t108)
theorem message_Safe.mono : ∀ a0 k, LeO (message_Safe.f k a0) (message_Safe.f (k + 1) a0) := by
  intro a0 k
  unfold message_Safe.f
  repeat' first
      | (with_reducible exact slices_Contains_string_string.mono _ _ _)
      | (with_reducible exact LeO.refl _)
      | (with_reducible exact LeO.none _)
      | (with_reducible refine LeO.ite ?_ ?_)
      | (with_reducible refine LeO.bind ?_ (fun _ => ?_))
      | exact slices_Contains_string_string.mono _ _ _
      | exact LeO.none _
      | refine LeO.ite ?_ ?_
      | refine LeO.bind ?_ (fun _ => ?_)
set_option maxHeartbeats 8000000 in
set_option maxRecDepth 100000 in
theorem message_Safe.calls (k : Nat) (a0 : ByteArray) (r : Bool) (w : World) (h : message_Safe.f k a0 = some r) :
    Calls Tryd.prog 16 #[.string a0] w fun e w' => e = .returned (.bool r) ∧ Below w.heap.size w w' := by
  have HB := Aside0.mk (Below.refl w.heap.size w)
  have H : ((slices_Contains_string_string.f k (([(⟨#[71, 69, 84]⟩ : ByteArray), (⟨#[72, 69, 65, 68]⟩ : ByteArray), (⟨#[80, 85, 84]⟩ : ByteArray), (⟨#[68, 69, 76, 69, 84, 69]⟩ : ByteArray), (⟨#[79, 80, 84, 73, 79, 78, 83]⟩ : ByteArray)] : List ByteArray)) a0).bind fun t108 => (some t108)) = some r := h
  clear h
  obtain ⟨y105, hy105⟩ : ∃ y_ : List ByteArray, y_ = (([(⟨#[71, 69, 84]⟩ : ByteArray), (⟨#[72, 69, 65, 68]⟩ : ByteArray), (⟨#[80, 85, 84]⟩ : ByteArray), (⟨#[68, 69, 76, 69, 84, 69]⟩ : ByteArray), (⟨#[79, 80, 84, 73, 79, 78, 83]⟩ : ByteArray)] : List ByteArray)) := ⟨_, rfl⟩
  replace H : ((slices_Contains_string_string.f k y105 a0).bind fun t108 => (some t108)) = some r := by first | (rw [hy105]; with_reducible exact H) | (have H2_ := (Option.bind_some _ _).symm.trans H; rw [hy105]; with_reducible exact H2_) | (have H2_ := (Option.bind_some _ _).symm.trans H; with_reducible exact H2_) | with_reducible exact H | (rw [hy105]; exact H) | exact H
  have Ny105 := Aside0.mk hy105
  clear hy105
  replace H := Option.bind_eq_some_iff.mp H
  obtain ⟨t108, A20, H⟩ := H
  replace H : (some t108) = some r := H
  have A2 := Aside0.mk A20
  clear A20
  obtain rfl := Option.some.inj H
  go_enter Tryd.func16, Tryd.ntmps16
  go_wp2_with (first | ((with_reducible refine gate_dst (N := 3) rfl ?_); refine Kd.R_lit Kd.string _ 9 ?hg (N := 3) ?hd (xs := ([(⟨#[71, 69, 84]⟩ : ByteArray), (⟨#[72, 69, 65, 68]⟩ : ByteArray), (⟨#[80, 85, 84]⟩ : ByteArray), (⟨#[68, 69, 76, 69, 84, 69]⟩ : ByteArray), (⟨#[79, 80, 84, 73, 79, 78, 83]⟩ : ByteArray)] : List ByteArray)) (inner := [.string (⟨#[71, 69, 84]⟩ : ByteArray), .string (⟨#[72, 69, 65, 68]⟩ : ByteArray), .string (⟨#[80, 85, 84]⟩ : ByteArray), .string (⟨#[68, 69, 76, 69, 84, 69]⟩ : ByteArray), .string (⟨#[79, 80, 84, 73, 79, 78, 83]⟩ : ByteArray)]) (ok := fun _ => True) (okp := fun _ => True) ?hr ?hp (fun _ hk => hk) trivial (Below.refl _ _) (Nat.le_refl _) (by simp) ?_; (case hd => rfl); (case hg => rfl); (case hr => first | (go_simp; done) | (go_simp; rfl)); (case hp => exact (Reps.one (show Kd.M Kd.string _ _ _ (⟨#[71, 69, 84]⟩ : ByteArray) [.string (⟨#[71, 69, 84]⟩ : ByteArray)] from rfl) (Reps.one (show Kd.M Kd.string _ _ _ (⟨#[72, 69, 65, 68]⟩ : ByteArray) [.string (⟨#[72, 69, 65, 68]⟩ : ByteArray)] from rfl) (Reps.one (show Kd.M Kd.string _ _ _ (⟨#[80, 85, 84]⟩ : ByteArray) [.string (⟨#[80, 85, 84]⟩ : ByteArray)] from rfl) (Reps.one (show Kd.M Kd.string _ _ _ (⟨#[68, 69, 76, 69, 84, 69]⟩ : ByteArray) [.string (⟨#[68, 69, 76, 69, 84, 69]⟩ : ByteArray)] from rfl) (Reps.one (show Kd.M Kd.string _ _ _ (⟨#[79, 80, 84, 73, 79, 78, 83]⟩ : ByteArray) [.string (⟨#[79, 80, 84, 73, 79, 78, 83]⟩ : ByteArray)] from rfl) (Reps.none _ _))))))); intro v106 w3 ho4 hb hg_ hnew_; clear hg_ hnew_; (first | rw [← Ny105.out] at ho4 | (simp only [Int.reduceToNat] at ho4; rw [← Ny105.out] at ho4)); have n0_ := Aside0.mk (Kd.R_lower ho4 (below_size (by repeat (first | (with_reducible first | exact HB.out | apply below_alloc | apply pw_below_drewN | apply below_drew1) | exact HB.out)))); have n1_ := Aside0.mk (below_step (by repeat (first | (with_reducible first | exact HB.out | apply below_alloc | apply pw_below_drewN | apply below_drew1) | exact HB.out)) hb); clear HB; have HO107 := n0_; have HB := n1_; clear n0_ n1_; clear hb ho4; obtain ⟨Ao5, co5, eo5⟩ := Kd.R_slice HO107.out; subst eo5) | ((with_reducible refine gate_callee (f := 25) rfl ?_); refine goesL_ (some 5) rfl rfl Tryd.func25 (by kernel_rfl) rfl #[.slice Ao5 y105.length co5, .string a0] rfl (by (try simp only [List.map_toArray, List.map_cons, List.map_nil]); first | done | rfl | (simp only [List.length_drop, List.length_take]; rfl)) ?_; (with_reducible refine (slices_Contains_string_string.calls k _ _ y105 a0 t108 _ ?side1 ?side2 A2.out).mono ?_); (case side1 => repeat (first | exact (Kd.R_reads' HO107.out).2.2 | (with_reducible refine Kd.C_alloc ?_ _) | (with_reducible refine Kd.C_drewN ?_ _) | (with_reducible refine Kd.C_drew ?_))); (case side2 => exact (Kd.R_reads' HO107.out).2.1); rintro e w' ⟨rfl, ⟨nd, rfl⟩⟩; refine ⟨_, rfl, ?_⟩))
  go_ret
  exact ⟨by first | rfl | (simp [errW_none, errW_some] <;> rfl) | (simp [*, errW_none, errW_some] <;> rfl), by repeat (first | (with_reducible first | exact HB.out | apply below_alloc | apply pw_below_drewN | apply below_drew1) | exact HB.out)⟩

-- NOT PRINTED: function 5 (retry_Again)

-- NOT PRINTED: function 18 (fail_Join)

-- NOT PRINTED: function 8 (retry_Err)

-- NOT PRINTED: function 11 (fail_Has)

-- NOT PRINTED: function 4 (bywashlaw21_alive)

/-! ### bywashref1_Safe: function 17 -/
def bywashref1_Safe.f (a0 : ByteArray) : Option (Bool) := if a0.toList = ([71, 69, 84] : List UInt8) then (some true) else (if a0.toList = ([72, 69, 65, 68] : List UInt8) then (some true) else (if a0.toList = ([80, 85, 84] : List UInt8) then (some true) else (if a0.toList = ([68, 69, 76, 69, 84, 69] : List UInt8) then (some true) else (some (a0.toList == ([79, 80, 84, 73, 79, 78, 83] : List UInt8))))))
set_option maxHeartbeats 8000000 in
set_option maxRecDepth 100000 in
theorem bywashref1_Safe.calls (a0 : ByteArray) (r : Bool) (w : World) (h : bywashref1_Safe.f a0 = some r) :
    Calls Tryd.prog 17 #[.string a0] w fun e w' => e = .returned (.bool r) ∧ Drawn0 w w' := by
  have H : (if a0.toList = ([71, 69, 84] : List UInt8) then (some true) else (if a0.toList = ([72, 69, 65, 68] : List UInt8) then (some true) else (if a0.toList = ([80, 85, 84] : List UInt8) then (some true) else (if a0.toList = ([68, 69, 76, 69, 84, 69] : List UInt8) then (some true) else (some (a0.toList == ([79, 80, 84, 73, 79, 78, 83] : List UInt8))))))) = some r := h
  clear h
  by_cases c2 : a0.toList = ([71, 69, 84] : List UInt8)
  · rw [if_pos c2] at H
    have c2b0 : (a0.toList == ([71, 69, 84] : List UInt8)) = true := beq_iff_eq.mpr c2
    have c2b1 : (a0.toList != ([71, 69, 84] : List UInt8)) = false := bne_eq_false_iff_eq.mpr c2
    clear c2
    obtain rfl := Option.some.inj H
    go_enter Tryd.func17, Tryd.ntmps17
    go_wp2
    go_ret
    exact ⟨by first | rfl | (simp; done) | (simp [*]; done), by repeat (first | exact Drawn0.refl _ | apply Drawn0.step)⟩
  · rw [if_neg c2] at H
    have c2b0 : (a0.toList == ([71, 69, 84] : List UInt8)) = false := beq_eq_false_iff_ne.mpr c2
    have c2b1 : (a0.toList != ([71, 69, 84] : List UInt8)) = true := bne_iff_ne.mpr c2
    by_cases c3 : a0.toList = ([72, 69, 65, 68] : List UInt8)
    · rw [if_pos c3] at H
      have c3b0 : (a0.toList == ([72, 69, 65, 68] : List UInt8)) = true := beq_iff_eq.mpr c3
      have c3b1 : (a0.toList != ([72, 69, 65, 68] : List UInt8)) = false := bne_eq_false_iff_eq.mpr c3
      clear c3
      obtain rfl := Option.some.inj H
      go_enter Tryd.func17, Tryd.ntmps17
      go_wp2
      go_ret
      exact ⟨by first | rfl | (simp; done) | (simp [*]; done), by repeat (first | exact Drawn0.refl _ | apply Drawn0.step)⟩
    · rw [if_neg c3] at H
      have c3b0 : (a0.toList == ([72, 69, 65, 68] : List UInt8)) = false := beq_eq_false_iff_ne.mpr c3
      have c3b1 : (a0.toList != ([72, 69, 65, 68] : List UInt8)) = true := bne_iff_ne.mpr c3
      by_cases c4 : a0.toList = ([80, 85, 84] : List UInt8)
      · rw [if_pos c4] at H
        have c4b0 : (a0.toList == ([80, 85, 84] : List UInt8)) = true := beq_iff_eq.mpr c4
        have c4b1 : (a0.toList != ([80, 85, 84] : List UInt8)) = false := bne_eq_false_iff_eq.mpr c4
        clear c4
        obtain rfl := Option.some.inj H
        go_enter Tryd.func17, Tryd.ntmps17
        go_wp2
        go_ret
        exact ⟨by first | rfl | (simp; done) | (simp [*]; done), by repeat (first | exact Drawn0.refl _ | apply Drawn0.step)⟩
      · rw [if_neg c4] at H
        have c4b0 : (a0.toList == ([80, 85, 84] : List UInt8)) = false := beq_eq_false_iff_ne.mpr c4
        have c4b1 : (a0.toList != ([80, 85, 84] : List UInt8)) = true := bne_iff_ne.mpr c4
        by_cases c5 : a0.toList = ([68, 69, 76, 69, 84, 69] : List UInt8)
        · rw [if_pos c5] at H
          have c5b0 : (a0.toList == ([68, 69, 76, 69, 84, 69] : List UInt8)) = true := beq_iff_eq.mpr c5
          have c5b1 : (a0.toList != ([68, 69, 76, 69, 84, 69] : List UInt8)) = false := bne_eq_false_iff_eq.mpr c5
          clear c5
          obtain rfl := Option.some.inj H
          go_enter Tryd.func17, Tryd.ntmps17
          go_wp2
          go_ret
          exact ⟨by first | rfl | (simp; done) | (simp [*]; done), by repeat (first | exact Drawn0.refl _ | apply Drawn0.step)⟩
        · rw [if_neg c5] at H
          have c5b0 : (a0.toList == ([68, 69, 76, 69, 84, 69] : List UInt8)) = false := beq_eq_false_iff_ne.mpr c5
          have c5b1 : (a0.toList != ([68, 69, 76, 69, 84, 69] : List UInt8)) = true := bne_iff_ne.mpr c5
          obtain rfl := Option.some.inj H
          go_enter Tryd.func17, Tryd.ntmps17
          go_wp2
          go_ret
          exact ⟨by first | rfl | (simp; done) | (simp [*]; done), by repeat (first | exact Drawn0.refl _ | apply Drawn0.step)⟩

/-! ### bywashref19_Again: function 6 -/
def bywashref19_Again.j0 : Nat → ByteArray → Bool → Int → Bool → Option (Bool)
  | 0, _, _, _, _ => none
  | k + 1, x0, x2, x14, x15 => if x15 = true then (some true) else (if x14 = 19 then ((bywashref1_Safe.f x0).bind fun t110 => (if t110 = true then (some true) else (some (!x2)))) else (if x14 = 16 then ((bywashref1_Safe.f x0).bind fun t111 => (if t111 = true then (some true) else (some (!x2)))) else (if x14 = 20 then ((bywashref1_Safe.f x0).bind fun t112 => (if t112 = true then (some true) else (some (!x2)))) else (if x14 = 18 then ((bywashref1_Safe.f x0).bind fun t113 => (if t113 = true then (some true) else (some (!x2)))) else (some false)))))
def bywashref19_Again.f (k : Nat) (a0 : ByteArray) (a1 : Int) (a2 : Bool) (a3 : Int) (a4 : Int) : Option (Bool) := if a3 ≥ a4 then (some false) else (if a1 = 15 then (bywashref19_Again.j0 k a0 a2 a1 (a1 == 15)) else (bywashref19_Again.j0 k a0 a2 a1 (a1 == 14)))
theorem bywashref19_Again.mono_l : ∀ k, (∀ y0 y1 y2 y3, LeO (bywashref19_Again.j0 k y0 y1 y2 y3) (bywashref19_Again.j0 (k + 1) y0 y1 y2 y3))
  | 0 => fun _ _ _ _ r h => by simp [bywashref19_Again.j0] at h
  | k + 1 => by
    have ih0 := bywashref19_Again.mono_l k
    · intro y0 y1 y2 y3
      unfold bywashref19_Again.j0
      repeat' first
      | (with_reducible exact ih0 _ _ _ _)
      | (with_reducible exact LeO.refl _)
      | (with_reducible exact LeO.none _)
      | (with_reducible refine LeO.ite ?_ ?_)
      | (with_reducible refine LeO.bind ?_ (fun _ => ?_))
      | exact ih0 _ _ _ _
      | exact LeO.none _
      | refine LeO.ite ?_ ?_
      | refine LeO.bind ?_ (fun _ => ?_)
theorem bywashref19_Again.mono : ∀ a0 a1 a2 a3 a4 k, LeO (bywashref19_Again.f k a0 a1 a2 a3 a4) (bywashref19_Again.f (k + 1) a0 a1 a2 a3 a4) := by
  intro a0 a1 a2 a3 a4 k
  have ih0 := bywashref19_Again.mono_l k
  unfold bywashref19_Again.f
  repeat' first
      | (with_reducible exact ih0 _ _ _ _)
      | (with_reducible exact LeO.refl _)
      | (with_reducible exact LeO.none _)
      | (with_reducible refine LeO.ite ?_ ?_)
      | (with_reducible refine LeO.bind ?_ (fun _ => ?_))
      | exact ih0 _ _ _ _
      | exact LeO.none _
      | refine LeO.ite ?_ ?_
      | refine LeO.bind ?_ (fun _ => ?_)
set_option maxHeartbeats 8000000 in
set_option maxRecDepth 100000 in
theorem bywashref19_Again.calls (k : Nat) (a0 : ByteArray) (a1 : Int) (a2 : Bool) (a3 : Int) (a4 : Int) (r : Bool) (w : World) (h : bywashref19_Again.f k a0 a1 a2 a3 a4 = some r) :
    Calls Tryd.prog 6 #[.string a0, .int .i64 a1, .bool a2, .int .i64 a3, .int .i64 a4] w fun e w' => e = .returned (.bool r) ∧ Drawn0 w w' := by
  have H : (if a3 ≥ a4 then (some false) else (if a1 = 15 then (bywashref19_Again.j0 k a0 a2 a1 (a1 == 15)) else (bywashref19_Again.j0 k a0 a2 a1 (a1 == 14)))) = some r := h
  clear h
  by_cases c6 : a3 ≥ a4
  · rw [if_pos c6] at H
    have c6b0 : decide (a4 ≤ a3) = true := decide_eq_true c6
    clear c6
    obtain rfl := Option.some.inj H
    go_enter Tryd.func6, Tryd.ntmps6
    go_wp2
    go_ret
    exact ⟨by first | rfl | (simp; done) | (simp [*]; done), by repeat (first | exact Drawn0.refl _ | apply Drawn0.step)⟩
  · rw [if_neg c6] at H
    have c6b0 : decide (a4 ≤ a3) = false := decide_eq_false c6
    clear c6
    have HC7 := Aside0.mk H
    clear H
    go_enter Tryd.func6, Tryd.ntmps6
    go_upto_if 15 with (fail)
    go_cut [15] (fun v15 wc => ∃ (kq : Nat) (x15_6 : Bool), v15 = .bool x15_6 ∧ Aside0 (bywashref19_Again.j0 kq a0 a2 a1 x15_6 = some r) ∧ Aside0 (kq ≤ k) ∧ Drawn0 w wc)
    case first =>
      have H := HC7.out
      clear HC7
      by_cases c8 : a1 = 15
      · rw [if_pos c8] at H
        have c8b0 : (a1 == 15) = true := beq_iff_eq.mpr c8
        have c8b1 : (a1 != 15) = false := bne_eq_false_iff_eq.mpr c8
        clear c8
        (first | rw [c8b0] | (simp only [i64_w, i32_w]; rw [c8b0]) | skip)
        have H' := Aside0.mk H
        clear H
        go_wp2
        go_meet
        case rel => exact ⟨_, ((a1 == 15)), (by first | rfl | (simp; done) | (simp [*]; done)), H', ⟨by first | omega | exact Nat.le_refl _⟩, by repeat (first | exact Drawn0.refl _ | apply Drawn0.step)⟩
      · rw [if_neg c8] at H
        have c8b0 : (a1 == 15) = false := beq_eq_false_iff_ne.mpr c8
        have c8b1 : (a1 != 15) = true := bne_iff_ne.mpr c8
        (first | rw [c8b0] | (simp only [i64_w, i32_w]; rw [c8b0]) | skip)
        have H' := Aside0.mk H
        clear H
        go_wp2
        go_meet
        case rel => exact ⟨_, ((a1 == 14)), (by first | rfl | (simp; done) | (simp [*]; done)), H', ⟨by first | omega | exact Nat.le_refl _⟩, by repeat (first | exact Drawn0.refl _ | apply Drawn0.step)⟩
    case rest =>
      clear HC7
      try clear p2
      try clear c6
      try clear c6b0
      try clear c8
      try clear c8b0
      try clear c8b1
      obtain ⟨kq, x15_6, rfl, HA, HJ6, ⟨mc6, rfl⟩⟩ := hcut
      cases kq with
      | zero => exact absurd HA.out (by simp [bywashref19_Again.j0])
      | succ kj6 =>
        have H := HA.out
        clear HA
        simp only [bywashref19_Again.j0] at H
        by_cases c9 : x15_6 = true
        · subst c9
          have H1 : (some true) = some r := by rw [if_pos rfl] at H; exact H
          clear H
          have H := H1
          clear H1
          obtain rfl := Option.some.inj H
          go_wp2
          go_ret
          exact ⟨by first | rfl | (simp; done) | (simp [*]; done), by repeat (first | exact Drawn0.refl _ | apply Drawn0.step)⟩
        · replace c9 := Bool.eq_false_iff.mpr c9
          subst c9
          have H1 : (if a1 = 19 then ((bywashref1_Safe.f a0).bind fun t110 => (if t110 = true then (some true) else (some (!a2)))) else (if a1 = 16 then ((bywashref1_Safe.f a0).bind fun t111 => (if t111 = true then (some true) else (some (!a2)))) else (if a1 = 20 then ((bywashref1_Safe.f a0).bind fun t112 => (if t112 = true then (some true) else (some (!a2)))) else (if a1 = 18 then ((bywashref1_Safe.f a0).bind fun t113 => (if t113 = true then (some true) else (some (!a2)))) else (some false))))) = some r := by rw [if_neg (show ¬ (false = true) by decide)] at H; exact H
          clear H
          have H := H1
          clear H1
          by_cases c10 : a1 = 19
          · rw [if_pos c10] at H
            have c10b0 : (a1 == 19) = true := beq_iff_eq.mpr c10
            have c10b1 : (a1 != 19) = false := bne_eq_false_iff_eq.mpr c10
            clear c10
            replace H := Option.bind_eq_some_iff.mp H
            obtain ⟨t110, A110, H⟩ := H
            replace H : (if t110 = true then (some true) else (some (!a2))) = some r := H
            have A11 := Aside0.mk A110
            clear A110
            by_cases c12 : t110 = true
            · subst c12
              have H1 : (some true) = some r := by rw [if_pos rfl] at H; exact H
              clear H
              have H := H1
              clear H1
              obtain rfl := Option.some.inj H
              go_wp2_with (first | ((with_reducible refine gate_callee (f := 17) rfl ?_); refine goesL_ (some 24) rfl rfl Tryd.func17 (by kernel_rfl) rfl #[.string a0] rfl (by (try simp only [List.map_toArray, List.map_cons, List.map_nil]); first | done | rfl | (simp only [List.length_drop, List.length_take]; rfl)) ?_; (with_reducible refine (bywashref1_Safe.calls a0 true _ A11.out).mono ?_); rintro e w' ⟨rfl, ⟨nd, rfl⟩⟩; refine ⟨_, rfl, ?_⟩))
              go_ret
              exact ⟨by first | rfl | (simp; done) | (simp [*]; done), by repeat (first | exact Drawn0.refl _ | apply Drawn0.step)⟩
            · replace c12 := Bool.eq_false_iff.mpr c12
              subst c12
              have H1 : (some (!a2)) = some r := by rw [if_neg (show ¬ (false = true) by decide)] at H; exact H
              clear H
              have H := H1
              clear H1
              obtain rfl := Option.some.inj H
              go_wp2_with (first | ((with_reducible refine gate_callee (f := 17) rfl ?_); refine goesL_ (some 24) rfl rfl Tryd.func17 (by kernel_rfl) rfl #[.string a0] rfl (by (try simp only [List.map_toArray, List.map_cons, List.map_nil]); first | done | rfl | (simp only [List.length_drop, List.length_take]; rfl)) ?_; (with_reducible refine (bywashref1_Safe.calls a0 false _ A11.out).mono ?_); rintro e w' ⟨rfl, ⟨nd, rfl⟩⟩; refine ⟨_, rfl, ?_⟩))
              go_ret
              exact ⟨by first | rfl | (simp; done) | (simp [*]; done), by repeat (first | exact Drawn0.refl _ | apply Drawn0.step)⟩
          · rw [if_neg c10] at H
            have c10b0 : (a1 == 19) = false := beq_eq_false_iff_ne.mpr c10
            have c10b1 : (a1 != 19) = true := bne_iff_ne.mpr c10
            by_cases c13 : a1 = 16
            · rw [if_pos c13] at H
              have c13b0 : (a1 == 16) = true := beq_iff_eq.mpr c13
              have c13b1 : (a1 != 16) = false := bne_eq_false_iff_eq.mpr c13
              clear c13
              replace H := Option.bind_eq_some_iff.mp H
              obtain ⟨t111, A140, H⟩ := H
              replace H : (if t111 = true then (some true) else (some (!a2))) = some r := H
              have A14 := Aside0.mk A140
              clear A140
              by_cases c15 : t111 = true
              · subst c15
                have H1 : (some true) = some r := by rw [if_pos rfl] at H; exact H
                clear H
                have H := H1
                clear H1
                obtain rfl := Option.some.inj H
                go_wp2_with (first | ((with_reducible refine gate_callee (f := 17) rfl ?_); refine goesL_ (some 24) rfl rfl Tryd.func17 (by kernel_rfl) rfl #[.string a0] rfl (by (try simp only [List.map_toArray, List.map_cons, List.map_nil]); first | done | rfl | (simp only [List.length_drop, List.length_take]; rfl)) ?_; (with_reducible refine (bywashref1_Safe.calls a0 true _ A14.out).mono ?_); rintro e w' ⟨rfl, ⟨nd, rfl⟩⟩; refine ⟨_, rfl, ?_⟩))
                go_ret
                exact ⟨by first | rfl | (simp; done) | (simp [*]; done), by repeat (first | exact Drawn0.refl _ | apply Drawn0.step)⟩
              · replace c15 := Bool.eq_false_iff.mpr c15
                subst c15
                have H1 : (some (!a2)) = some r := by rw [if_neg (show ¬ (false = true) by decide)] at H; exact H
                clear H
                have H := H1
                clear H1
                obtain rfl := Option.some.inj H
                go_wp2_with (first | ((with_reducible refine gate_callee (f := 17) rfl ?_); refine goesL_ (some 24) rfl rfl Tryd.func17 (by kernel_rfl) rfl #[.string a0] rfl (by (try simp only [List.map_toArray, List.map_cons, List.map_nil]); first | done | rfl | (simp only [List.length_drop, List.length_take]; rfl)) ?_; (with_reducible refine (bywashref1_Safe.calls a0 false _ A14.out).mono ?_); rintro e w' ⟨rfl, ⟨nd, rfl⟩⟩; refine ⟨_, rfl, ?_⟩))
                go_ret
                exact ⟨by first | rfl | (simp; done) | (simp [*]; done), by repeat (first | exact Drawn0.refl _ | apply Drawn0.step)⟩
            · rw [if_neg c13] at H
              have c13b0 : (a1 == 16) = false := beq_eq_false_iff_ne.mpr c13
              have c13b1 : (a1 != 16) = true := bne_iff_ne.mpr c13
              by_cases c16 : a1 = 20
              · rw [if_pos c16] at H
                have c16b0 : (a1 == 20) = true := beq_iff_eq.mpr c16
                have c16b1 : (a1 != 20) = false := bne_eq_false_iff_eq.mpr c16
                clear c16
                replace H := Option.bind_eq_some_iff.mp H
                obtain ⟨t112, A170, H⟩ := H
                replace H : (if t112 = true then (some true) else (some (!a2))) = some r := H
                have A17 := Aside0.mk A170
                clear A170
                by_cases c18 : t112 = true
                · subst c18
                  have H1 : (some true) = some r := by rw [if_pos rfl] at H; exact H
                  clear H
                  have H := H1
                  clear H1
                  obtain rfl := Option.some.inj H
                  go_wp2_with (first | ((with_reducible refine gate_callee (f := 17) rfl ?_); refine goesL_ (some 24) rfl rfl Tryd.func17 (by kernel_rfl) rfl #[.string a0] rfl (by (try simp only [List.map_toArray, List.map_cons, List.map_nil]); first | done | rfl | (simp only [List.length_drop, List.length_take]; rfl)) ?_; (with_reducible refine (bywashref1_Safe.calls a0 true _ A17.out).mono ?_); rintro e w' ⟨rfl, ⟨nd, rfl⟩⟩; refine ⟨_, rfl, ?_⟩))
                  go_ret
                  exact ⟨by first | rfl | (simp; done) | (simp [*]; done), by repeat (first | exact Drawn0.refl _ | apply Drawn0.step)⟩
                · replace c18 := Bool.eq_false_iff.mpr c18
                  subst c18
                  have H1 : (some (!a2)) = some r := by rw [if_neg (show ¬ (false = true) by decide)] at H; exact H
                  clear H
                  have H := H1
                  clear H1
                  obtain rfl := Option.some.inj H
                  go_wp2_with (first | ((with_reducible refine gate_callee (f := 17) rfl ?_); refine goesL_ (some 24) rfl rfl Tryd.func17 (by kernel_rfl) rfl #[.string a0] rfl (by (try simp only [List.map_toArray, List.map_cons, List.map_nil]); first | done | rfl | (simp only [List.length_drop, List.length_take]; rfl)) ?_; (with_reducible refine (bywashref1_Safe.calls a0 false _ A17.out).mono ?_); rintro e w' ⟨rfl, ⟨nd, rfl⟩⟩; refine ⟨_, rfl, ?_⟩))
                  go_ret
                  exact ⟨by first | rfl | (simp; done) | (simp [*]; done), by repeat (first | exact Drawn0.refl _ | apply Drawn0.step)⟩
              · rw [if_neg c16] at H
                have c16b0 : (a1 == 20) = false := beq_eq_false_iff_ne.mpr c16
                have c16b1 : (a1 != 20) = true := bne_iff_ne.mpr c16
                by_cases c19 : a1 = 18
                · rw [if_pos c19] at H
                  have c19b0 : (a1 == 18) = true := beq_iff_eq.mpr c19
                  have c19b1 : (a1 != 18) = false := bne_eq_false_iff_eq.mpr c19
                  clear c19
                  replace H := Option.bind_eq_some_iff.mp H
                  obtain ⟨t113, A200, H⟩ := H
                  replace H : (if t113 = true then (some true) else (some (!a2))) = some r := H
                  have A20 := Aside0.mk A200
                  clear A200
                  by_cases c21 : t113 = true
                  · subst c21
                    have H1 : (some true) = some r := by rw [if_pos rfl] at H; exact H
                    clear H
                    have H := H1
                    clear H1
                    obtain rfl := Option.some.inj H
                    go_wp2_with (first | ((with_reducible refine gate_callee (f := 17) rfl ?_); refine goesL_ (some 24) rfl rfl Tryd.func17 (by kernel_rfl) rfl #[.string a0] rfl (by (try simp only [List.map_toArray, List.map_cons, List.map_nil]); first | done | rfl | (simp only [List.length_drop, List.length_take]; rfl)) ?_; (with_reducible refine (bywashref1_Safe.calls a0 true _ A20.out).mono ?_); rintro e w' ⟨rfl, ⟨nd, rfl⟩⟩; refine ⟨_, rfl, ?_⟩))
                    go_ret
                    exact ⟨by first | rfl | (simp; done) | (simp [*]; done), by repeat (first | exact Drawn0.refl _ | apply Drawn0.step)⟩
                  · replace c21 := Bool.eq_false_iff.mpr c21
                    subst c21
                    have H1 : (some (!a2)) = some r := by rw [if_neg (show ¬ (false = true) by decide)] at H; exact H
                    clear H
                    have H := H1
                    clear H1
                    obtain rfl := Option.some.inj H
                    go_wp2_with (first | ((with_reducible refine gate_callee (f := 17) rfl ?_); refine goesL_ (some 24) rfl rfl Tryd.func17 (by kernel_rfl) rfl #[.string a0] rfl (by (try simp only [List.map_toArray, List.map_cons, List.map_nil]); first | done | rfl | (simp only [List.length_drop, List.length_take]; rfl)) ?_; (with_reducible refine (bywashref1_Safe.calls a0 false _ A20.out).mono ?_); rintro e w' ⟨rfl, ⟨nd, rfl⟩⟩; refine ⟨_, rfl, ?_⟩))
                    go_ret
                    exact ⟨by first | rfl | (simp; done) | (simp [*]; done), by repeat (first | exact Drawn0.refl _ | apply Drawn0.step)⟩
                · rw [if_neg c19] at H
                  have c19b0 : (a1 == 18) = false := beq_eq_false_iff_ne.mpr c19
                  have c19b1 : (a1 != 18) = true := bne_iff_ne.mpr c19
                  obtain rfl := Option.some.inj H
                  go_wp2
                  go_ret
                  exact ⟨by first | rfl | (simp; done) | (simp [*]; done), by repeat (first | exact Drawn0.refl _ | apply Drawn0.step)⟩

/-! ### fail_Name: function 9 -/
def fail_Name.f (a0 : Int) : Option (ByteArray) := (some (([(⟨#[111, 107]⟩ : ByteArray), (⟨#[97, 114, 103]⟩ : ByteArray), (⟨#[109, 111, 114, 101]⟩ : ByteArray), (⟨#[102, 111, 114, 109]⟩ : ByteArray), (⟨#[114, 97, 110, 103, 101]⟩ : ByteArray), (⟨#[115, 105, 122, 101]⟩ : ByteArray), (⟨#[110, 97, 109, 101]⟩ : ByteArray), (⟨#[111, 114, 100, 101, 114]⟩ : ByteArray), (⟨#[115, 116, 97, 116, 101]⟩ : ByteArray), (⟨#[102, 108, 111, 119]⟩ : ByteArray), (⟨#[112, 97, 99, 107]⟩ : ByteArray), (⟨#[112, 114, 111, 116, 111]⟩ : ByteArray), (⟨#[99, 108, 111, 115, 101, 100]⟩ : ByteArray), (⟨#[98, 117, 115, 121]⟩ : ByteArray), (⟨#[103, 111, 110, 101]⟩ : ByteArray), (⟨#[114, 101, 102, 117, 115, 101, 100]⟩ : ByteArray), (⟨#[114, 101, 115, 101, 116]⟩ : ByteArray), (⟨#[99, 97, 110, 99, 101, 108]⟩ : ByteArray), (⟨#[108, 97, 116, 101]⟩ : ByteArray), (⟨#[100, 101, 97, 100]⟩ : ByteArray), (⟨#[100, 105, 97, 108]⟩ : ByteArray), (⟨#[110, 111, 110, 101]⟩ : ByteArray), (⟨#[108, 101, 110, 103, 116, 104]⟩ : ByteArray), (⟨#[109, 97, 110, 121]⟩ : ByteArray)] : List ByteArray) : List ByteArray)).bind fun y114 => (if a0 < 0 then (some (⟨#[101, 114, 114, 111, 114]⟩ : ByteArray)) else (if a0 ≥ (y114.length : Int) then (some (⟨#[101, 114, 114, 111, 114]⟩ : ByteArray)) else (if 0 ≤ a0 then (if a0 < (y114.length : Int) then (some (rdOf ByteArray.empty y114 a0)) else (none)) else (none))))
set_option maxHeartbeats 8000000 in
set_option maxRecDepth 100000 in
theorem fail_Name.calls (a0 : Int) (r : ByteArray) (w : World) (h : fail_Name.f a0 = some r) :
    Calls Tryd.prog 9 #[.int .i64 a0] w fun e w' => e = .returned (.string r) ∧ Below w.heap.size w w' := by
  have HB := Aside0.mk (Below.refl w.heap.size w)
  have H : ((some (([(⟨#[111, 107]⟩ : ByteArray), (⟨#[97, 114, 103]⟩ : ByteArray), (⟨#[109, 111, 114, 101]⟩ : ByteArray), (⟨#[102, 111, 114, 109]⟩ : ByteArray), (⟨#[114, 97, 110, 103, 101]⟩ : ByteArray), (⟨#[115, 105, 122, 101]⟩ : ByteArray), (⟨#[110, 97, 109, 101]⟩ : ByteArray), (⟨#[111, 114, 100, 101, 114]⟩ : ByteArray), (⟨#[115, 116, 97, 116, 101]⟩ : ByteArray), (⟨#[102, 108, 111, 119]⟩ : ByteArray), (⟨#[112, 97, 99, 107]⟩ : ByteArray), (⟨#[112, 114, 111, 116, 111]⟩ : ByteArray), (⟨#[99, 108, 111, 115, 101, 100]⟩ : ByteArray), (⟨#[98, 117, 115, 121]⟩ : ByteArray), (⟨#[103, 111, 110, 101]⟩ : ByteArray), (⟨#[114, 101, 102, 117, 115, 101, 100]⟩ : ByteArray), (⟨#[114, 101, 115, 101, 116]⟩ : ByteArray), (⟨#[99, 97, 110, 99, 101, 108]⟩ : ByteArray), (⟨#[108, 97, 116, 101]⟩ : ByteArray), (⟨#[100, 101, 97, 100]⟩ : ByteArray), (⟨#[100, 105, 97, 108]⟩ : ByteArray), (⟨#[110, 111, 110, 101]⟩ : ByteArray), (⟨#[108, 101, 110, 103, 116, 104]⟩ : ByteArray), (⟨#[109, 97, 110, 121]⟩ : ByteArray)] : List ByteArray) : List ByteArray)).bind fun y114 => (if a0 < 0 then (some (⟨#[101, 114, 114, 111, 114]⟩ : ByteArray)) else (if a0 ≥ (y114.length : Int) then (some (⟨#[101, 114, 114, 111, 114]⟩ : ByteArray)) else (if 0 ≤ a0 then (if a0 < (y114.length : Int) then (some (rdOf ByteArray.empty y114 a0)) else (none)) else (none))))) = some r := h
  clear h
  obtain ⟨y114, hy114⟩ : ∃ y_ : List ByteArray, y_ = (([(⟨#[111, 107]⟩ : ByteArray), (⟨#[97, 114, 103]⟩ : ByteArray), (⟨#[109, 111, 114, 101]⟩ : ByteArray), (⟨#[102, 111, 114, 109]⟩ : ByteArray), (⟨#[114, 97, 110, 103, 101]⟩ : ByteArray), (⟨#[115, 105, 122, 101]⟩ : ByteArray), (⟨#[110, 97, 109, 101]⟩ : ByteArray), (⟨#[111, 114, 100, 101, 114]⟩ : ByteArray), (⟨#[115, 116, 97, 116, 101]⟩ : ByteArray), (⟨#[102, 108, 111, 119]⟩ : ByteArray), (⟨#[112, 97, 99, 107]⟩ : ByteArray), (⟨#[112, 114, 111, 116, 111]⟩ : ByteArray), (⟨#[99, 108, 111, 115, 101, 100]⟩ : ByteArray), (⟨#[98, 117, 115, 121]⟩ : ByteArray), (⟨#[103, 111, 110, 101]⟩ : ByteArray), (⟨#[114, 101, 102, 117, 115, 101, 100]⟩ : ByteArray), (⟨#[114, 101, 115, 101, 116]⟩ : ByteArray), (⟨#[99, 97, 110, 99, 101, 108]⟩ : ByteArray), (⟨#[108, 97, 116, 101]⟩ : ByteArray), (⟨#[100, 101, 97, 100]⟩ : ByteArray), (⟨#[100, 105, 97, 108]⟩ : ByteArray), (⟨#[110, 111, 110, 101]⟩ : ByteArray), (⟨#[108, 101, 110, 103, 116, 104]⟩ : ByteArray), (⟨#[109, 97, 110, 121]⟩ : ByteArray)] : List ByteArray)) := ⟨_, rfl⟩
  replace H : (if a0 < 0 then (some (⟨#[101, 114, 114, 111, 114]⟩ : ByteArray)) else (if a0 ≥ (y114.length : Int) then (some (⟨#[101, 114, 114, 111, 114]⟩ : ByteArray)) else (if 0 ≤ a0 then (if a0 < (y114.length : Int) then (some (rdOf ByteArray.empty y114 a0)) else (none)) else (none)))) = some r := by first | (rw [hy114]; with_reducible exact H) | (have H2_ := (Option.bind_some _ _).symm.trans H; rw [hy114]; with_reducible exact H2_) | (have H2_ := (Option.bind_some _ _).symm.trans H; with_reducible exact H2_) | with_reducible exact H | (rw [hy114]; exact H) | exact H
  have Ny114 := Aside0.mk hy114
  clear hy114
  by_cases c2 : a0 < 0
  · rw [if_pos c2] at H
    have c2b0 : decide (a0 < 0) = true := decide_eq_true c2
    clear c2
    obtain rfl := Option.some.inj H
    go_enter Tryd.func9, Tryd.ntmps9
    go_wp2_with (first | ((with_reducible refine gate_dst (N := 4) rfl ?_); (try (refine gate_guard (by rfl) ?_; dsimp only)); refine Kd.R_lit Kd.string _ 9 ?hg (N := 4) ?hd (xs := ([(⟨#[111, 107]⟩ : ByteArray), (⟨#[97, 114, 103]⟩ : ByteArray), (⟨#[109, 111, 114, 101]⟩ : ByteArray), (⟨#[102, 111, 114, 109]⟩ : ByteArray), (⟨#[114, 97, 110, 103, 101]⟩ : ByteArray), (⟨#[115, 105, 122, 101]⟩ : ByteArray), (⟨#[110, 97, 109, 101]⟩ : ByteArray), (⟨#[111, 114, 100, 101, 114]⟩ : ByteArray), (⟨#[115, 116, 97, 116, 101]⟩ : ByteArray), (⟨#[102, 108, 111, 119]⟩ : ByteArray), (⟨#[112, 97, 99, 107]⟩ : ByteArray), (⟨#[112, 114, 111, 116, 111]⟩ : ByteArray), (⟨#[99, 108, 111, 115, 101, 100]⟩ : ByteArray), (⟨#[98, 117, 115, 121]⟩ : ByteArray), (⟨#[103, 111, 110, 101]⟩ : ByteArray), (⟨#[114, 101, 102, 117, 115, 101, 100]⟩ : ByteArray), (⟨#[114, 101, 115, 101, 116]⟩ : ByteArray), (⟨#[99, 97, 110, 99, 101, 108]⟩ : ByteArray), (⟨#[108, 97, 116, 101]⟩ : ByteArray), (⟨#[100, 101, 97, 100]⟩ : ByteArray), (⟨#[100, 105, 97, 108]⟩ : ByteArray), (⟨#[110, 111, 110, 101]⟩ : ByteArray), (⟨#[108, 101, 110, 103, 116, 104]⟩ : ByteArray), (⟨#[109, 97, 110, 121]⟩ : ByteArray)] : List ByteArray)) (inner := [.string (⟨#[111, 107]⟩ : ByteArray), .string (⟨#[97, 114, 103]⟩ : ByteArray), .string (⟨#[109, 111, 114, 101]⟩ : ByteArray), .string (⟨#[102, 111, 114, 109]⟩ : ByteArray), .string (⟨#[114, 97, 110, 103, 101]⟩ : ByteArray), .string (⟨#[115, 105, 122, 101]⟩ : ByteArray), .string (⟨#[110, 97, 109, 101]⟩ : ByteArray), .string (⟨#[111, 114, 100, 101, 114]⟩ : ByteArray), .string (⟨#[115, 116, 97, 116, 101]⟩ : ByteArray), .string (⟨#[102, 108, 111, 119]⟩ : ByteArray), .string (⟨#[112, 97, 99, 107]⟩ : ByteArray), .string (⟨#[112, 114, 111, 116, 111]⟩ : ByteArray), .string (⟨#[99, 108, 111, 115, 101, 100]⟩ : ByteArray), .string (⟨#[98, 117, 115, 121]⟩ : ByteArray), .string (⟨#[103, 111, 110, 101]⟩ : ByteArray), .string (⟨#[114, 101, 102, 117, 115, 101, 100]⟩ : ByteArray), .string (⟨#[114, 101, 115, 101, 116]⟩ : ByteArray), .string (⟨#[99, 97, 110, 99, 101, 108]⟩ : ByteArray), .string (⟨#[108, 97, 116, 101]⟩ : ByteArray), .string (⟨#[100, 101, 97, 100]⟩ : ByteArray), .string (⟨#[100, 105, 97, 108]⟩ : ByteArray), .string (⟨#[110, 111, 110, 101]⟩ : ByteArray), .string (⟨#[108, 101, 110, 103, 116, 104]⟩ : ByteArray), .string (⟨#[109, 97, 110, 121]⟩ : ByteArray)]) (ok := fun _ => True) (okp := fun _ => True) ?hr ?hp (fun _ hk => hk) trivial (Below.refl _ _) (Nat.le_refl _) (by simp) ?_; (case hd => rfl); (case hg => rfl); (case hr => first | (go_simp; done) | (go_simp; rfl)); (case hp => exact (Reps.one (show Kd.M Kd.string _ _ _ (⟨#[111, 107]⟩ : ByteArray) [.string (⟨#[111, 107]⟩ : ByteArray)] from rfl) (Reps.one (show Kd.M Kd.string _ _ _ (⟨#[97, 114, 103]⟩ : ByteArray) [.string (⟨#[97, 114, 103]⟩ : ByteArray)] from rfl) (Reps.one (show Kd.M Kd.string _ _ _ (⟨#[109, 111, 114, 101]⟩ : ByteArray) [.string (⟨#[109, 111, 114, 101]⟩ : ByteArray)] from rfl) (Reps.one (show Kd.M Kd.string _ _ _ (⟨#[102, 111, 114, 109]⟩ : ByteArray) [.string (⟨#[102, 111, 114, 109]⟩ : ByteArray)] from rfl) (Reps.one (show Kd.M Kd.string _ _ _ (⟨#[114, 97, 110, 103, 101]⟩ : ByteArray) [.string (⟨#[114, 97, 110, 103, 101]⟩ : ByteArray)] from rfl) (Reps.one (show Kd.M Kd.string _ _ _ (⟨#[115, 105, 122, 101]⟩ : ByteArray) [.string (⟨#[115, 105, 122, 101]⟩ : ByteArray)] from rfl) (Reps.one (show Kd.M Kd.string _ _ _ (⟨#[110, 97, 109, 101]⟩ : ByteArray) [.string (⟨#[110, 97, 109, 101]⟩ : ByteArray)] from rfl) (Reps.one (show Kd.M Kd.string _ _ _ (⟨#[111, 114, 100, 101, 114]⟩ : ByteArray) [.string (⟨#[111, 114, 100, 101, 114]⟩ : ByteArray)] from rfl) (Reps.one (show Kd.M Kd.string _ _ _ (⟨#[115, 116, 97, 116, 101]⟩ : ByteArray) [.string (⟨#[115, 116, 97, 116, 101]⟩ : ByteArray)] from rfl) (Reps.one (show Kd.M Kd.string _ _ _ (⟨#[102, 108, 111, 119]⟩ : ByteArray) [.string (⟨#[102, 108, 111, 119]⟩ : ByteArray)] from rfl) (Reps.one (show Kd.M Kd.string _ _ _ (⟨#[112, 97, 99, 107]⟩ : ByteArray) [.string (⟨#[112, 97, 99, 107]⟩ : ByteArray)] from rfl) (Reps.one (show Kd.M Kd.string _ _ _ (⟨#[112, 114, 111, 116, 111]⟩ : ByteArray) [.string (⟨#[112, 114, 111, 116, 111]⟩ : ByteArray)] from rfl) (Reps.one (show Kd.M Kd.string _ _ _ (⟨#[99, 108, 111, 115, 101, 100]⟩ : ByteArray) [.string (⟨#[99, 108, 111, 115, 101, 100]⟩ : ByteArray)] from rfl) (Reps.one (show Kd.M Kd.string _ _ _ (⟨#[98, 117, 115, 121]⟩ : ByteArray) [.string (⟨#[98, 117, 115, 121]⟩ : ByteArray)] from rfl) (Reps.one (show Kd.M Kd.string _ _ _ (⟨#[103, 111, 110, 101]⟩ : ByteArray) [.string (⟨#[103, 111, 110, 101]⟩ : ByteArray)] from rfl) (Reps.one (show Kd.M Kd.string _ _ _ (⟨#[114, 101, 102, 117, 115, 101, 100]⟩ : ByteArray) [.string (⟨#[114, 101, 102, 117, 115, 101, 100]⟩ : ByteArray)] from rfl) (Reps.one (show Kd.M Kd.string _ _ _ (⟨#[114, 101, 115, 101, 116]⟩ : ByteArray) [.string (⟨#[114, 101, 115, 101, 116]⟩ : ByteArray)] from rfl) (Reps.one (show Kd.M Kd.string _ _ _ (⟨#[99, 97, 110, 99, 101, 108]⟩ : ByteArray) [.string (⟨#[99, 97, 110, 99, 101, 108]⟩ : ByteArray)] from rfl) (Reps.one (show Kd.M Kd.string _ _ _ (⟨#[108, 97, 116, 101]⟩ : ByteArray) [.string (⟨#[108, 97, 116, 101]⟩ : ByteArray)] from rfl) (Reps.one (show Kd.M Kd.string _ _ _ (⟨#[100, 101, 97, 100]⟩ : ByteArray) [.string (⟨#[100, 101, 97, 100]⟩ : ByteArray)] from rfl) (Reps.one (show Kd.M Kd.string _ _ _ (⟨#[100, 105, 97, 108]⟩ : ByteArray) [.string (⟨#[100, 105, 97, 108]⟩ : ByteArray)] from rfl) (Reps.one (show Kd.M Kd.string _ _ _ (⟨#[110, 111, 110, 101]⟩ : ByteArray) [.string (⟨#[110, 111, 110, 101]⟩ : ByteArray)] from rfl) (Reps.one (show Kd.M Kd.string _ _ _ (⟨#[108, 101, 110, 103, 116, 104]⟩ : ByteArray) [.string (⟨#[108, 101, 110, 103, 116, 104]⟩ : ByteArray)] from rfl) (Reps.one (show Kd.M Kd.string _ _ _ (⟨#[109, 97, 110, 121]⟩ : ByteArray) [.string (⟨#[109, 97, 110, 121]⟩ : ByteArray)] from rfl) (Reps.none _ _)))))))))))))))))))))))))); intro v115 w3 ho4 hb hg_ hnew_; clear hg_ hnew_; (first | rw [← Ny114.out] at ho4 | (simp only [Int.reduceToNat] at ho4; rw [← Ny114.out] at ho4)); have n0_ := Aside0.mk (Kd.R_lower ho4 (below_size (by repeat (first | (with_reducible first | exact HB.out | apply below_alloc | apply pw_below_drewN | apply below_drew1) | exact HB.out)))); have n1_ := Aside0.mk (below_step (by repeat (first | (with_reducible first | exact HB.out | apply below_alloc | apply pw_below_drewN | apply below_drew1) | exact HB.out)) hb); clear HB; have HO116 := n0_; have HB := n1_; clear n0_ n1_; clear hb ho4))
    go_ret
    exact ⟨by first | rfl | (simp [errW_none, errW_some] <;> rfl) | (simp [*, errW_none, errW_some] <;> rfl), by repeat (first | (with_reducible first | exact HB.out | apply below_alloc | apply pw_below_drewN | apply below_drew1) | exact HB.out)⟩
  · rw [if_neg c2] at H
    have c2b0 : decide (a0 < 0) = false := decide_eq_false c2
    clear c2
    by_cases c5 : a0 ≥ (y114.length : Int)
    · rw [if_pos c5] at H
      have c5b0 : decide ((y114.length : Int) ≤ a0) = true := decide_eq_true c5
      clear c5
      obtain rfl := Option.some.inj H
      go_enter Tryd.func9, Tryd.ntmps9
      go_wp2_with (first | ((with_reducible refine gate_dst (N := 4) rfl ?_); (try (refine gate_guard (by rfl) ?_; dsimp only)); refine Kd.R_lit Kd.string _ 9 ?hg (N := 4) ?hd (xs := ([(⟨#[111, 107]⟩ : ByteArray), (⟨#[97, 114, 103]⟩ : ByteArray), (⟨#[109, 111, 114, 101]⟩ : ByteArray), (⟨#[102, 111, 114, 109]⟩ : ByteArray), (⟨#[114, 97, 110, 103, 101]⟩ : ByteArray), (⟨#[115, 105, 122, 101]⟩ : ByteArray), (⟨#[110, 97, 109, 101]⟩ : ByteArray), (⟨#[111, 114, 100, 101, 114]⟩ : ByteArray), (⟨#[115, 116, 97, 116, 101]⟩ : ByteArray), (⟨#[102, 108, 111, 119]⟩ : ByteArray), (⟨#[112, 97, 99, 107]⟩ : ByteArray), (⟨#[112, 114, 111, 116, 111]⟩ : ByteArray), (⟨#[99, 108, 111, 115, 101, 100]⟩ : ByteArray), (⟨#[98, 117, 115, 121]⟩ : ByteArray), (⟨#[103, 111, 110, 101]⟩ : ByteArray), (⟨#[114, 101, 102, 117, 115, 101, 100]⟩ : ByteArray), (⟨#[114, 101, 115, 101, 116]⟩ : ByteArray), (⟨#[99, 97, 110, 99, 101, 108]⟩ : ByteArray), (⟨#[108, 97, 116, 101]⟩ : ByteArray), (⟨#[100, 101, 97, 100]⟩ : ByteArray), (⟨#[100, 105, 97, 108]⟩ : ByteArray), (⟨#[110, 111, 110, 101]⟩ : ByteArray), (⟨#[108, 101, 110, 103, 116, 104]⟩ : ByteArray), (⟨#[109, 97, 110, 121]⟩ : ByteArray)] : List ByteArray)) (inner := [.string (⟨#[111, 107]⟩ : ByteArray), .string (⟨#[97, 114, 103]⟩ : ByteArray), .string (⟨#[109, 111, 114, 101]⟩ : ByteArray), .string (⟨#[102, 111, 114, 109]⟩ : ByteArray), .string (⟨#[114, 97, 110, 103, 101]⟩ : ByteArray), .string (⟨#[115, 105, 122, 101]⟩ : ByteArray), .string (⟨#[110, 97, 109, 101]⟩ : ByteArray), .string (⟨#[111, 114, 100, 101, 114]⟩ : ByteArray), .string (⟨#[115, 116, 97, 116, 101]⟩ : ByteArray), .string (⟨#[102, 108, 111, 119]⟩ : ByteArray), .string (⟨#[112, 97, 99, 107]⟩ : ByteArray), .string (⟨#[112, 114, 111, 116, 111]⟩ : ByteArray), .string (⟨#[99, 108, 111, 115, 101, 100]⟩ : ByteArray), .string (⟨#[98, 117, 115, 121]⟩ : ByteArray), .string (⟨#[103, 111, 110, 101]⟩ : ByteArray), .string (⟨#[114, 101, 102, 117, 115, 101, 100]⟩ : ByteArray), .string (⟨#[114, 101, 115, 101, 116]⟩ : ByteArray), .string (⟨#[99, 97, 110, 99, 101, 108]⟩ : ByteArray), .string (⟨#[108, 97, 116, 101]⟩ : ByteArray), .string (⟨#[100, 101, 97, 100]⟩ : ByteArray), .string (⟨#[100, 105, 97, 108]⟩ : ByteArray), .string (⟨#[110, 111, 110, 101]⟩ : ByteArray), .string (⟨#[108, 101, 110, 103, 116, 104]⟩ : ByteArray), .string (⟨#[109, 97, 110, 121]⟩ : ByteArray)]) (ok := fun _ => True) (okp := fun _ => True) ?hr ?hp (fun _ hk => hk) trivial (Below.refl _ _) (Nat.le_refl _) (by simp) ?_; (case hd => rfl); (case hg => rfl); (case hr => first | (go_simp; done) | (go_simp; rfl)); (case hp => exact (Reps.one (show Kd.M Kd.string _ _ _ (⟨#[111, 107]⟩ : ByteArray) [.string (⟨#[111, 107]⟩ : ByteArray)] from rfl) (Reps.one (show Kd.M Kd.string _ _ _ (⟨#[97, 114, 103]⟩ : ByteArray) [.string (⟨#[97, 114, 103]⟩ : ByteArray)] from rfl) (Reps.one (show Kd.M Kd.string _ _ _ (⟨#[109, 111, 114, 101]⟩ : ByteArray) [.string (⟨#[109, 111, 114, 101]⟩ : ByteArray)] from rfl) (Reps.one (show Kd.M Kd.string _ _ _ (⟨#[102, 111, 114, 109]⟩ : ByteArray) [.string (⟨#[102, 111, 114, 109]⟩ : ByteArray)] from rfl) (Reps.one (show Kd.M Kd.string _ _ _ (⟨#[114, 97, 110, 103, 101]⟩ : ByteArray) [.string (⟨#[114, 97, 110, 103, 101]⟩ : ByteArray)] from rfl) (Reps.one (show Kd.M Kd.string _ _ _ (⟨#[115, 105, 122, 101]⟩ : ByteArray) [.string (⟨#[115, 105, 122, 101]⟩ : ByteArray)] from rfl) (Reps.one (show Kd.M Kd.string _ _ _ (⟨#[110, 97, 109, 101]⟩ : ByteArray) [.string (⟨#[110, 97, 109, 101]⟩ : ByteArray)] from rfl) (Reps.one (show Kd.M Kd.string _ _ _ (⟨#[111, 114, 100, 101, 114]⟩ : ByteArray) [.string (⟨#[111, 114, 100, 101, 114]⟩ : ByteArray)] from rfl) (Reps.one (show Kd.M Kd.string _ _ _ (⟨#[115, 116, 97, 116, 101]⟩ : ByteArray) [.string (⟨#[115, 116, 97, 116, 101]⟩ : ByteArray)] from rfl) (Reps.one (show Kd.M Kd.string _ _ _ (⟨#[102, 108, 111, 119]⟩ : ByteArray) [.string (⟨#[102, 108, 111, 119]⟩ : ByteArray)] from rfl) (Reps.one (show Kd.M Kd.string _ _ _ (⟨#[112, 97, 99, 107]⟩ : ByteArray) [.string (⟨#[112, 97, 99, 107]⟩ : ByteArray)] from rfl) (Reps.one (show Kd.M Kd.string _ _ _ (⟨#[112, 114, 111, 116, 111]⟩ : ByteArray) [.string (⟨#[112, 114, 111, 116, 111]⟩ : ByteArray)] from rfl) (Reps.one (show Kd.M Kd.string _ _ _ (⟨#[99, 108, 111, 115, 101, 100]⟩ : ByteArray) [.string (⟨#[99, 108, 111, 115, 101, 100]⟩ : ByteArray)] from rfl) (Reps.one (show Kd.M Kd.string _ _ _ (⟨#[98, 117, 115, 121]⟩ : ByteArray) [.string (⟨#[98, 117, 115, 121]⟩ : ByteArray)] from rfl) (Reps.one (show Kd.M Kd.string _ _ _ (⟨#[103, 111, 110, 101]⟩ : ByteArray) [.string (⟨#[103, 111, 110, 101]⟩ : ByteArray)] from rfl) (Reps.one (show Kd.M Kd.string _ _ _ (⟨#[114, 101, 102, 117, 115, 101, 100]⟩ : ByteArray) [.string (⟨#[114, 101, 102, 117, 115, 101, 100]⟩ : ByteArray)] from rfl) (Reps.one (show Kd.M Kd.string _ _ _ (⟨#[114, 101, 115, 101, 116]⟩ : ByteArray) [.string (⟨#[114, 101, 115, 101, 116]⟩ : ByteArray)] from rfl) (Reps.one (show Kd.M Kd.string _ _ _ (⟨#[99, 97, 110, 99, 101, 108]⟩ : ByteArray) [.string (⟨#[99, 97, 110, 99, 101, 108]⟩ : ByteArray)] from rfl) (Reps.one (show Kd.M Kd.string _ _ _ (⟨#[108, 97, 116, 101]⟩ : ByteArray) [.string (⟨#[108, 97, 116, 101]⟩ : ByteArray)] from rfl) (Reps.one (show Kd.M Kd.string _ _ _ (⟨#[100, 101, 97, 100]⟩ : ByteArray) [.string (⟨#[100, 101, 97, 100]⟩ : ByteArray)] from rfl) (Reps.one (show Kd.M Kd.string _ _ _ (⟨#[100, 105, 97, 108]⟩ : ByteArray) [.string (⟨#[100, 105, 97, 108]⟩ : ByteArray)] from rfl) (Reps.one (show Kd.M Kd.string _ _ _ (⟨#[110, 111, 110, 101]⟩ : ByteArray) [.string (⟨#[110, 111, 110, 101]⟩ : ByteArray)] from rfl) (Reps.one (show Kd.M Kd.string _ _ _ (⟨#[108, 101, 110, 103, 116, 104]⟩ : ByteArray) [.string (⟨#[108, 101, 110, 103, 116, 104]⟩ : ByteArray)] from rfl) (Reps.one (show Kd.M Kd.string _ _ _ (⟨#[109, 97, 110, 121]⟩ : ByteArray) [.string (⟨#[109, 97, 110, 121]⟩ : ByteArray)] from rfl) (Reps.none _ _)))))))))))))))))))))))))); intro v115 w6 ho7 hb hg_ hnew_; clear hg_ hnew_; (first | rw [← Ny114.out] at ho7 | (simp only [Int.reduceToNat] at ho7; rw [← Ny114.out] at ho7)); have n0_ := Aside0.mk (Kd.R_lower ho7 (below_size (by repeat (first | (with_reducible first | exact HB.out | apply below_alloc | apply pw_below_drewN | apply below_drew1) | exact HB.out)))); have n1_ := Aside0.mk (below_step (by repeat (first | (with_reducible first | exact HB.out | apply below_alloc | apply pw_below_drewN | apply below_drew1) | exact HB.out)) hb); clear HB; have HO116 := n0_; have HB := n1_; clear n0_ n1_; clear hb ho7; obtain ⟨Ao8, co8, eo8⟩ := Kd.R_slice HO116.out; subst eo8))
      go_ret
      exact ⟨by first | rfl | (simp [errW_none, errW_some] <;> rfl) | (simp [*, errW_none, errW_some] <;> rfl), by repeat (first | (with_reducible first | exact HB.out | apply below_alloc | apply pw_below_drewN | apply below_drew1) | exact HB.out)⟩
    · rw [if_neg c5] at H
      have c5b0 : decide ((y114.length : Int) ≤ a0) = false := decide_eq_false c5
      clear c5
      by_cases c9 : 0 ≤ a0
      · rw [if_pos c9] at H
        have c9b0 : decide (0 ≤ a0) = true := decide_eq_true c9
        clear c9
        by_cases c10 : a0 < (y114.length : Int)
        · rw [if_pos c10] at H
          have c10b0 : decide (a0 < (y114.length : Int)) = true := decide_eq_true c10
          clear c10
          obtain rfl := Option.some.inj H
          go_enter Tryd.func9, Tryd.ntmps9
          go_wp2_with (first | ((with_reducible refine gate_dst (N := 4) rfl ?_); (try (refine gate_guard (by rfl) ?_; dsimp only)); refine Kd.R_lit Kd.string _ 9 ?hg (N := 4) ?hd (xs := ([(⟨#[111, 107]⟩ : ByteArray), (⟨#[97, 114, 103]⟩ : ByteArray), (⟨#[109, 111, 114, 101]⟩ : ByteArray), (⟨#[102, 111, 114, 109]⟩ : ByteArray), (⟨#[114, 97, 110, 103, 101]⟩ : ByteArray), (⟨#[115, 105, 122, 101]⟩ : ByteArray), (⟨#[110, 97, 109, 101]⟩ : ByteArray), (⟨#[111, 114, 100, 101, 114]⟩ : ByteArray), (⟨#[115, 116, 97, 116, 101]⟩ : ByteArray), (⟨#[102, 108, 111, 119]⟩ : ByteArray), (⟨#[112, 97, 99, 107]⟩ : ByteArray), (⟨#[112, 114, 111, 116, 111]⟩ : ByteArray), (⟨#[99, 108, 111, 115, 101, 100]⟩ : ByteArray), (⟨#[98, 117, 115, 121]⟩ : ByteArray), (⟨#[103, 111, 110, 101]⟩ : ByteArray), (⟨#[114, 101, 102, 117, 115, 101, 100]⟩ : ByteArray), (⟨#[114, 101, 115, 101, 116]⟩ : ByteArray), (⟨#[99, 97, 110, 99, 101, 108]⟩ : ByteArray), (⟨#[108, 97, 116, 101]⟩ : ByteArray), (⟨#[100, 101, 97, 100]⟩ : ByteArray), (⟨#[100, 105, 97, 108]⟩ : ByteArray), (⟨#[110, 111, 110, 101]⟩ : ByteArray), (⟨#[108, 101, 110, 103, 116, 104]⟩ : ByteArray), (⟨#[109, 97, 110, 121]⟩ : ByteArray)] : List ByteArray)) (inner := [.string (⟨#[111, 107]⟩ : ByteArray), .string (⟨#[97, 114, 103]⟩ : ByteArray), .string (⟨#[109, 111, 114, 101]⟩ : ByteArray), .string (⟨#[102, 111, 114, 109]⟩ : ByteArray), .string (⟨#[114, 97, 110, 103, 101]⟩ : ByteArray), .string (⟨#[115, 105, 122, 101]⟩ : ByteArray), .string (⟨#[110, 97, 109, 101]⟩ : ByteArray), .string (⟨#[111, 114, 100, 101, 114]⟩ : ByteArray), .string (⟨#[115, 116, 97, 116, 101]⟩ : ByteArray), .string (⟨#[102, 108, 111, 119]⟩ : ByteArray), .string (⟨#[112, 97, 99, 107]⟩ : ByteArray), .string (⟨#[112, 114, 111, 116, 111]⟩ : ByteArray), .string (⟨#[99, 108, 111, 115, 101, 100]⟩ : ByteArray), .string (⟨#[98, 117, 115, 121]⟩ : ByteArray), .string (⟨#[103, 111, 110, 101]⟩ : ByteArray), .string (⟨#[114, 101, 102, 117, 115, 101, 100]⟩ : ByteArray), .string (⟨#[114, 101, 115, 101, 116]⟩ : ByteArray), .string (⟨#[99, 97, 110, 99, 101, 108]⟩ : ByteArray), .string (⟨#[108, 97, 116, 101]⟩ : ByteArray), .string (⟨#[100, 101, 97, 100]⟩ : ByteArray), .string (⟨#[100, 105, 97, 108]⟩ : ByteArray), .string (⟨#[110, 111, 110, 101]⟩ : ByteArray), .string (⟨#[108, 101, 110, 103, 116, 104]⟩ : ByteArray), .string (⟨#[109, 97, 110, 121]⟩ : ByteArray)]) (ok := fun _ => True) (okp := fun _ => True) ?hr ?hp (fun _ hk => hk) trivial (Below.refl _ _) (Nat.le_refl _) (by simp) ?_; (case hd => rfl); (case hg => rfl); (case hr => first | (go_simp; done) | (go_simp; rfl)); (case hp => exact (Reps.one (show Kd.M Kd.string _ _ _ (⟨#[111, 107]⟩ : ByteArray) [.string (⟨#[111, 107]⟩ : ByteArray)] from rfl) (Reps.one (show Kd.M Kd.string _ _ _ (⟨#[97, 114, 103]⟩ : ByteArray) [.string (⟨#[97, 114, 103]⟩ : ByteArray)] from rfl) (Reps.one (show Kd.M Kd.string _ _ _ (⟨#[109, 111, 114, 101]⟩ : ByteArray) [.string (⟨#[109, 111, 114, 101]⟩ : ByteArray)] from rfl) (Reps.one (show Kd.M Kd.string _ _ _ (⟨#[102, 111, 114, 109]⟩ : ByteArray) [.string (⟨#[102, 111, 114, 109]⟩ : ByteArray)] from rfl) (Reps.one (show Kd.M Kd.string _ _ _ (⟨#[114, 97, 110, 103, 101]⟩ : ByteArray) [.string (⟨#[114, 97, 110, 103, 101]⟩ : ByteArray)] from rfl) (Reps.one (show Kd.M Kd.string _ _ _ (⟨#[115, 105, 122, 101]⟩ : ByteArray) [.string (⟨#[115, 105, 122, 101]⟩ : ByteArray)] from rfl) (Reps.one (show Kd.M Kd.string _ _ _ (⟨#[110, 97, 109, 101]⟩ : ByteArray) [.string (⟨#[110, 97, 109, 101]⟩ : ByteArray)] from rfl) (Reps.one (show Kd.M Kd.string _ _ _ (⟨#[111, 114, 100, 101, 114]⟩ : ByteArray) [.string (⟨#[111, 114, 100, 101, 114]⟩ : ByteArray)] from rfl) (Reps.one (show Kd.M Kd.string _ _ _ (⟨#[115, 116, 97, 116, 101]⟩ : ByteArray) [.string (⟨#[115, 116, 97, 116, 101]⟩ : ByteArray)] from rfl) (Reps.one (show Kd.M Kd.string _ _ _ (⟨#[102, 108, 111, 119]⟩ : ByteArray) [.string (⟨#[102, 108, 111, 119]⟩ : ByteArray)] from rfl) (Reps.one (show Kd.M Kd.string _ _ _ (⟨#[112, 97, 99, 107]⟩ : ByteArray) [.string (⟨#[112, 97, 99, 107]⟩ : ByteArray)] from rfl) (Reps.one (show Kd.M Kd.string _ _ _ (⟨#[112, 114, 111, 116, 111]⟩ : ByteArray) [.string (⟨#[112, 114, 111, 116, 111]⟩ : ByteArray)] from rfl) (Reps.one (show Kd.M Kd.string _ _ _ (⟨#[99, 108, 111, 115, 101, 100]⟩ : ByteArray) [.string (⟨#[99, 108, 111, 115, 101, 100]⟩ : ByteArray)] from rfl) (Reps.one (show Kd.M Kd.string _ _ _ (⟨#[98, 117, 115, 121]⟩ : ByteArray) [.string (⟨#[98, 117, 115, 121]⟩ : ByteArray)] from rfl) (Reps.one (show Kd.M Kd.string _ _ _ (⟨#[103, 111, 110, 101]⟩ : ByteArray) [.string (⟨#[103, 111, 110, 101]⟩ : ByteArray)] from rfl) (Reps.one (show Kd.M Kd.string _ _ _ (⟨#[114, 101, 102, 117, 115, 101, 100]⟩ : ByteArray) [.string (⟨#[114, 101, 102, 117, 115, 101, 100]⟩ : ByteArray)] from rfl) (Reps.one (show Kd.M Kd.string _ _ _ (⟨#[114, 101, 115, 101, 116]⟩ : ByteArray) [.string (⟨#[114, 101, 115, 101, 116]⟩ : ByteArray)] from rfl) (Reps.one (show Kd.M Kd.string _ _ _ (⟨#[99, 97, 110, 99, 101, 108]⟩ : ByteArray) [.string (⟨#[99, 97, 110, 99, 101, 108]⟩ : ByteArray)] from rfl) (Reps.one (show Kd.M Kd.string _ _ _ (⟨#[108, 97, 116, 101]⟩ : ByteArray) [.string (⟨#[108, 97, 116, 101]⟩ : ByteArray)] from rfl) (Reps.one (show Kd.M Kd.string _ _ _ (⟨#[100, 101, 97, 100]⟩ : ByteArray) [.string (⟨#[100, 101, 97, 100]⟩ : ByteArray)] from rfl) (Reps.one (show Kd.M Kd.string _ _ _ (⟨#[100, 105, 97, 108]⟩ : ByteArray) [.string (⟨#[100, 105, 97, 108]⟩ : ByteArray)] from rfl) (Reps.one (show Kd.M Kd.string _ _ _ (⟨#[110, 111, 110, 101]⟩ : ByteArray) [.string (⟨#[110, 111, 110, 101]⟩ : ByteArray)] from rfl) (Reps.one (show Kd.M Kd.string _ _ _ (⟨#[108, 101, 110, 103, 116, 104]⟩ : ByteArray) [.string (⟨#[108, 101, 110, 103, 116, 104]⟩ : ByteArray)] from rfl) (Reps.one (show Kd.M Kd.string _ _ _ (⟨#[109, 97, 110, 121]⟩ : ByteArray) [.string (⟨#[109, 97, 110, 121]⟩ : ByteArray)] from rfl) (Reps.none _ _)))))))))))))))))))))))))); intro v115 w11 ho12 hb hg_ hnew_; clear hg_ hnew_; (first | rw [← Ny114.out] at ho12 | (simp only [Int.reduceToNat] at ho12; rw [← Ny114.out] at ho12)); have n0_ := Aside0.mk (Kd.R_lower ho12 (below_size (by repeat (first | (with_reducible first | exact HB.out | apply below_alloc | apply pw_below_drewN | apply below_drew1) | exact HB.out)))); have n1_ := Aside0.mk (below_step (by repeat (first | (with_reducible first | exact HB.out | apply below_alloc | apply pw_below_drewN | apply below_drew1) | exact HB.out)) hb); clear HB; have HO116 := n0_; have HB := n1_; clear n0_ n1_; clear hb ho12; obtain ⟨Ao13, co13, eo13⟩ := Kd.R_slice HO116.out; subst eo13; have p117 : 0 ≤ (a0 : Int) := of_decide_eq_true (by first | (with_reducible assumption) | assumption); have q117 : a0 < (y114.length : Int) := of_decide_eq_true (by first | (with_reducible assumption) | assumption); obtain ⟨ad117, e117, hx117_0⟩ := Kd.at_string (Kd.R_reads' HO116.out).2.2 a0 p117 q117; cases e117; replace p117 := eq_true p117; replace q117 := eq_true q117))
          go_ret
          exact ⟨by first | rfl | (simp [errW_none, errW_some] <;> rfl) | (simp [*, errW_none, errW_some] <;> rfl), by repeat (first | (with_reducible first | exact HB.out | apply below_alloc | apply pw_below_drewN | apply below_drew1) | exact HB.out)⟩
        · rw [if_neg c10] at H
          exact absurd H (by simp)
      · rw [if_neg c9] at H
        exact absurd H (by simp)

-- NOT PRINTED: function 19 (reflectlite_ValueOf)

-- NOT PRINTED: function 20 (reflectlite_Value_Type)

-- NOT PRINTED: function 21 (reflectlite_Value_IsNil)

-- NOT PRINTED: function 26 (reflectlite_Value_Elem)

-- NOT PRINTED: function 27 (reflectlite_Value_Set)

-- NOT PRINTED: function 22 (errors_as)

-- NOT PRINTED: function 12 (errors_As)

-- NOT PRINTED: function 10 (fail_Code)

-- NOT PRINTED: function 3 (bywashlaw21_RetryTells)

end Go.Proofs.YtckfmokbebmlbaaDoor.PRetryTells
