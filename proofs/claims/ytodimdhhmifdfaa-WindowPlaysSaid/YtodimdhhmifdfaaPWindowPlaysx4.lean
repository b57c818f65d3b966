-- Written by a program of this session (the kit's printer, turned): the functions that the law reaches.
import Derived.Test.YtodimdhhmifdfaaPWindowPlaysx0
import Derived.Test.YtodimdhhmifdfaaPWindowPlaysx1
import Derived.Test.YtodimdhhmifdfaaPWindowPlaysx2
import Derived.Test.YtodimdhhmifdfaaPWindowPlaysx3
namespace Go.Proofs.Ytodimdhhmifdfaa.PWindowPlays
open Go.RowKit Go.Proofs.YtodimdhhmifdfaaW.PrintWords Go.Proofs.YtodimdhhmifdfaaW.PrintLast Go.Proofs.YtodimdhhmifdfaaW.PrintMore
attribute [local go_sem] max2_int min2_int max_two min_two max_three min_three max_four min_four   -- for this text's walks alone
set_option linter.unusedVariables false
set_option linter.unusedSimpArgs false

attribute [local go_sem high] eqA25 eqA35
/-! ### bywashlaw12_WindowPlays: function 8 -/
mutual
def bywashlaw12_WindowPlays.j0 : Nat → Int → List (S38) → Bool → Option (Bool)
  | 0, _, _, _ => none
  | k + 1, x0, x1, x22 => if x22 = true then ((bywashlaw12_alive.f).bind fun t145 => (some t145)) else ((window_New.f x0).bind fun bt146 => (if x0 ≥ 0 then (bywashlaw12_WindowPlays.j1 k x0 x1 bt146.2.2.2 (bt146.2.2.2 != (decide (x0 ≤ 2147483647))) bt146.1 bt146.2.1 bt146.2.2.1) else (bywashlaw12_WindowPlays.j1 k x0 x1 bt146.2.2.2 (bt146.2.2.2 != false) bt146.1 bt146.2.1 bt146.2.2.1)))
def bywashlaw12_WindowPlays.j1 : Nat → Int → List (S38) → Bool → Bool → Int → Int → Int → Option (Bool)
  | 0, _, _, _, _, _, _, _ => none
  | k + 1, x0, x1, x6, x36, x151000, x151001, x151002 => if x36 = true then (some false) else (if x6 = true then ((bywashlaw12_Ref.f x151000 x151001 x151002).bind fun bt152 => (if (!(bt152.1 == x0) || (!(bt152.2.1 == x0) || (!(bt152.2.2 == 0)))) = true then (some false) else (bywashlaw12_WindowPlays.l0 k x1 (x1.length : Int) 0 x151000 x151001 x151002 x0 x0 0))) else (some (x151000 == 0 && (x151001 == 0 && (x151002 == 0)))))
def bywashlaw12_WindowPlays.l0 : Nat → List (S38) → Int → Int → Int → Int → Int → Int → Int → Int → Option (Bool)
  | 0, _, _, _, _, _, _, _, _, _ => none
  | k + 1, x49, x50, x51, x151000, x151001, x151002, x152000, x152001, x152002 => if x51 < x50 then (if 0 ≤ x51 then (if x51 < (x49.length : Int) then (if ((rd_T38 x49 x51).f1) > 1099511627776 then (bywashlaw12_WindowPlays.j3 k x49 x50 x51 true x151000 x151001 x151002 x152000 x152001 x152002 ((rd_T38 x49 x51).f0) ((rd_T38 x49 x51).f1)) else (bywashlaw12_WindowPlays.j3 k x49 x50 x51 (decide (((rd_T38 x49 x51).f1) < (-1099511627776))) x151000 x151001 x151002 x152000 x152001 x152002 ((rd_T38 x49 x51).f0) ((rd_T38 x49 x51).f1))) else (none)) else (none)) else (some true)
def bywashlaw12_WindowPlays.j3 : Nat → List (S38) → Int → Int → Bool → Int → Int → Int → Int → Int → Int → Int → Int → Option (Bool)
  | 0, _, _, _, _, _, _, _, _, _, _, _, _ => none
  | k + 1, x49, x50, x51, x62, x151000, x151001, x151002, x152000, x152001, x152002, x157000, x157001 => if x62 = true then (some true) else (if x157000 = 1 then ((window_Take.f x151000 x151001 x151002 x157001).bind fun bt159 => ((bywashref1_Take.f x152000 x152001 x152002 x157001).bind fun bt163 => (bywashlaw12_WindowPlays.j4 k bt159.2.2.2 bt163.2.2.2 0 0 x49 x50 x51 bt159.1 bt159.2.1 bt159.2.2.1 bt163.1 bt163.2.1 bt163.2.2.1))) else (if x157000 = 2 then ((window_Grow.f x151000 x151001 x151002 x157001).bind fun bt167 => ((bywashref1_Grow.f x152000 x152001 x152002 x157001).bind fun bt171 => (bywashlaw12_WindowPlays.j4 k bt167.2.2.2 bt171.2.2.2 0 0 x49 x50 x51 bt167.1 bt167.2.1 bt167.2.2.1 bt171.1 bt171.2.1 bt171.2.2.1))) else (if x157000 = 3 then ((window_Shift.f x151000 x151001 x151002 x157001).bind fun bt175 => ((bywashref1_Shift.f x152000 x152001 x152002 x157001).bind fun bt179 => (bywashlaw12_WindowPlays.j4 k bt175.2.2.2 bt179.2.2.2 0 0 x49 x50 x51 bt175.1 bt175.2.1 bt175.2.2.1 bt179.1 bt179.2.1 bt179.2.2.1))) else (if x157000 = 4 then ((window_Spend.f x151000 x151001 x151002 x157001).bind fun bt183 => ((bywashref1_Take.f x152000 x152001 x152002 x157001).bind fun bt187 => (bywashlaw12_WindowPlays.j4 k bt183.2.2.2 bt187.2.2.2 0 0 x49 x50 x51 bt183.1 bt183.2.1 bt183.2.2.1 bt187.1 bt187.2.1 bt187.2.2.1))) else (if x157000 = 5 then ((window_Credit.f x151000 x151001 x151002 x157001).bind fun bt191 => ((bywashref1_Credit.f x152000 x152001 x152002 x157001).bind fun bt195 => (bywashlaw12_WindowPlays.j4 k true true bt191.2.2.2 bt195.2.2.2 x49 x50 x51 bt191.1 bt191.2.1 bt191.2.2.1 bt195.1 bt195.2.1 bt195.2.2.1))) else (bywashlaw12_WindowPlays.l0 k x49 x50 (wrap64 (x51 + 1)) x151000 x151001 x151002 x152000 x152001 x152002))))))
def bywashlaw12_WindowPlays.j4 : Nat → Bool → Bool → Int → Int → List (S38) → Int → Int → Int → Int → Int → Int → Int → Int → Option (Bool)
  | 0, _, _, _, _, _, _, _, _, _, _, _, _, _ => none
  | k + 1, x12, x13, x14, x15, x49, x50, x51, x158000, x158001, x158002, x159000, x159001, x159002 => (bywashlaw12_Ref.f x158000 x158001 x158002).bind fun bt199 => (if (!(bt199.1 == x159000) || (!(bt199.2.1 == x159001) || (!(bt199.2.2 == x159002)))) = true then (bywashlaw12_WindowPlays.j5 k x49 x50 x51 true x158000 x158001 x158002 x159000 x159001 x159002) else (if (x12 != x13) = true then (bywashlaw12_WindowPlays.j5 k x49 x50 x51 true x158000 x158001 x158002 x159000 x159001 x159002) else (bywashlaw12_WindowPlays.j5 k x49 x50 x51 (x14 != x15) x158000 x158001 x158002 x159000 x159001 x159002)))
def bywashlaw12_WindowPlays.j5 : Nat → List (S38) → Int → Int → Bool → Int → Int → Int → Int → Int → Int → Option (Bool)
  | 0, _, _, _, _, _, _, _, _, _, _ => none
  | k + 1, x49, x50, x51, x158, x158000, x158001, x158002, x159000, x159001, x159002 => if x158 = true then (some false) else (bywashlaw12_WindowPlays.l0 k x49 x50 (wrap64 (x51 + 1)) x158000 x158001 x158002 x159000 x159001 x159002)
end
def bywashlaw12_WindowPlays.f (k : Nat) (a0 : Int) (l1 : List (S38)) : Option (Bool) := if (l1.length : Int) > 100 then (bywashlaw12_WindowPlays.j0 k a0 l1 true) else ((bywashlaw12_alive.f).bind fun t144 => (bywashlaw12_WindowPlays.j0 k a0 l1 (!t144)))
theorem bywashlaw12_WindowPlays.mono_l : ∀ k, (∀ y0 y1 y2, LeO (bywashlaw12_WindowPlays.j0 k y0 y1 y2) (bywashlaw12_WindowPlays.j0 (k + 1) y0 y1 y2)) ∧ (∀ y0 y1 y2 y3 y4 y5 y6, LeO (bywashlaw12_WindowPlays.j1 k y0 y1 y2 y3 y4 y5 y6) (bywashlaw12_WindowPlays.j1 (k + 1) y0 y1 y2 y3 y4 y5 y6)) ∧ (∀ y0 y1 y2 y3 y4 y5 y6 y7 y8, LeO (bywashlaw12_WindowPlays.l0 k y0 y1 y2 y3 y4 y5 y6 y7 y8) (bywashlaw12_WindowPlays.l0 (k + 1) y0 y1 y2 y3 y4 y5 y6 y7 y8)) ∧ (∀ y0 y1 y2 y3 y4 y5 y6 y7 y8 y9 y10 y11, LeO (bywashlaw12_WindowPlays.j3 k y0 y1 y2 y3 y4 y5 y6 y7 y8 y9 y10 y11) (bywashlaw12_WindowPlays.j3 (k + 1) y0 y1 y2 y3 y4 y5 y6 y7 y8 y9 y10 y11)) ∧ (∀ y0 y1 y2 y3 y4 y5 y6 y7 y8 y9 y10 y11 y12, LeO (bywashlaw12_WindowPlays.j4 k y0 y1 y2 y3 y4 y5 y6 y7 y8 y9 y10 y11 y12) (bywashlaw12_WindowPlays.j4 (k + 1) y0 y1 y2 y3 y4 y5 y6 y7 y8 y9 y10 y11 y12)) ∧ (∀ y0 y1 y2 y3 y4 y5 y6 y7 y8 y9, LeO (bywashlaw12_WindowPlays.j5 k y0 y1 y2 y3 y4 y5 y6 y7 y8 y9) (bywashlaw12_WindowPlays.j5 (k + 1) y0 y1 y2 y3 y4 y5 y6 y7 y8 y9))
  | 0 => ⟨fun _ _ _ r h => by simp [bywashlaw12_WindowPlays.j0] at h, fun _ _ _ _ _ _ _ r h => by simp [bywashlaw12_WindowPlays.j1] at h, fun _ _ _ _ _ _ _ _ _ r h => by simp [bywashlaw12_WindowPlays.l0] at h, fun _ _ _ _ _ _ _ _ _ _ _ _ r h => by simp [bywashlaw12_WindowPlays.j3] at h, fun _ _ _ _ _ _ _ _ _ _ _ _ _ r h => by simp [bywashlaw12_WindowPlays.j4] at h, fun _ _ _ _ _ _ _ _ _ _ r h => by simp [bywashlaw12_WindowPlays.j5] at h⟩
  | k + 1 => by
    obtain ⟨ih0, ih1, ih2, ih3, ih4, ih5⟩ := bywashlaw12_WindowPlays.mono_l k
    refine ⟨?_, ?_, ?_, ?_, ?_, ?_⟩
    · intro y0 y1 y2
      unfold bywashlaw12_WindowPlays.j0
      repeat' first
      | (with_reducible exact ih0 _ _ _)
      | (with_reducible exact ih1 _ _ _ _ _ _ _)
      | (with_reducible exact ih2 _ _ _ _ _ _ _ _ _)
      | (with_reducible exact ih3 _ _ _ _ _ _ _ _ _ _ _ _)
      | (with_reducible exact ih4 _ _ _ _ _ _ _ _ _ _ _ _ _)
      | (with_reducible exact ih5 _ _ _ _ _ _ _ _ _ _)
      | (with_reducible exact LeO.refl _)
      | (with_reducible exact LeO.none _)
      | (with_reducible refine LeO.ite ?_ ?_)
      | (with_reducible refine LeO.bind ?_ (fun _ => ?_))
      | exact ih0 _ _ _
      | exact ih1 _ _ _ _ _ _ _
      | exact ih2 _ _ _ _ _ _ _ _ _
      | exact ih3 _ _ _ _ _ _ _ _ _ _ _ _
      | exact ih4 _ _ _ _ _ _ _ _ _ _ _ _ _
      | exact ih5 _ _ _ _ _ _ _ _ _ _
      | exact LeO.none _
      | refine LeO.ite ?_ ?_
      | refine LeO.bind ?_ (fun _ => ?_)
    · intro y0 y1 y2 y3 y4 y5 y6
      unfold bywashlaw12_WindowPlays.j1
      repeat' first
      | (with_reducible exact ih0 _ _ _)
      | (with_reducible exact ih1 _ _ _ _ _ _ _)
      | (with_reducible exact ih2 _ _ _ _ _ _ _ _ _)
      | (with_reducible exact ih3 _ _ _ _ _ _ _ _ _ _ _ _)
      | (with_reducible exact ih4 _ _ _ _ _ _ _ _ _ _ _ _ _)
      | (with_reducible exact ih5 _ _ _ _ _ _ _ _ _ _)
      | (with_reducible exact LeO.refl _)
      | (with_reducible exact LeO.none _)
      | (with_reducible refine LeO.ite ?_ ?_)
      | (with_reducible refine LeO.bind ?_ (fun _ => ?_))
      | exact ih0 _ _ _
      | exact ih1 _ _ _ _ _ _ _
      | exact ih2 _ _ _ _ _ _ _ _ _
      | exact ih3 _ _ _ _ _ _ _ _ _ _ _ _
      | exact ih4 _ _ _ _ _ _ _ _ _ _ _ _ _
      | exact ih5 _ _ _ _ _ _ _ _ _ _
      | exact LeO.none _
      | refine LeO.ite ?_ ?_
      | refine LeO.bind ?_ (fun _ => ?_)
    · intro y0 y1 y2 y3 y4 y5 y6 y7 y8
      unfold bywashlaw12_WindowPlays.l0
      repeat' first
      | (with_reducible exact ih0 _ _ _)
      | (with_reducible exact ih1 _ _ _ _ _ _ _)
      | (with_reducible exact ih2 _ _ _ _ _ _ _ _ _)
      | (with_reducible exact ih3 _ _ _ _ _ _ _ _ _ _ _ _)
      | (with_reducible exact ih4 _ _ _ _ _ _ _ _ _ _ _ _ _)
      | (with_reducible exact ih5 _ _ _ _ _ _ _ _ _ _)
      | (with_reducible exact LeO.refl _)
      | (with_reducible exact LeO.none _)
      | (with_reducible refine LeO.ite ?_ ?_)
      | (with_reducible refine LeO.bind ?_ (fun _ => ?_))
      | exact ih0 _ _ _
      | exact ih1 _ _ _ _ _ _ _
      | exact ih2 _ _ _ _ _ _ _ _ _
      | exact ih3 _ _ _ _ _ _ _ _ _ _ _ _
      | exact ih4 _ _ _ _ _ _ _ _ _ _ _ _ _
      | exact ih5 _ _ _ _ _ _ _ _ _ _
      | exact LeO.none _
      | refine LeO.ite ?_ ?_
      | refine LeO.bind ?_ (fun _ => ?_)
    · intro y0 y1 y2 y3 y4 y5 y6 y7 y8 y9 y10 y11
      unfold bywashlaw12_WindowPlays.j3
      repeat' first
      | (with_reducible exact ih0 _ _ _)
      | (with_reducible exact ih1 _ _ _ _ _ _ _)
      | (with_reducible exact ih2 _ _ _ _ _ _ _ _ _)
      | (with_reducible exact ih3 _ _ _ _ _ _ _ _ _ _ _ _)
      | (with_reducible exact ih4 _ _ _ _ _ _ _ _ _ _ _ _ _)
      | (with_reducible exact ih5 _ _ _ _ _ _ _ _ _ _)
      | (with_reducible exact LeO.refl _)
      | (with_reducible exact LeO.none _)
      | (with_reducible refine LeO.ite ?_ ?_)
      | (with_reducible refine LeO.bind ?_ (fun _ => ?_))
      | exact ih0 _ _ _
      | exact ih1 _ _ _ _ _ _ _
      | exact ih2 _ _ _ _ _ _ _ _ _
      | exact ih3 _ _ _ _ _ _ _ _ _ _ _ _
      | exact ih4 _ _ _ _ _ _ _ _ _ _ _ _ _
      | exact ih5 _ _ _ _ _ _ _ _ _ _
      | exact LeO.none _
      | refine LeO.ite ?_ ?_
      | refine LeO.bind ?_ (fun _ => ?_)
    · intro y0 y1 y2 y3 y4 y5 y6 y7 y8 y9 y10 y11 y12
      unfold bywashlaw12_WindowPlays.j4
      repeat' first
      | (with_reducible exact ih0 _ _ _)
      | (with_reducible exact ih1 _ _ _ _ _ _ _)
      | (with_reducible exact ih2 _ _ _ _ _ _ _ _ _)
      | (with_reducible exact ih3 _ _ _ _ _ _ _ _ _ _ _ _)
      | (with_reducible exact ih4 _ _ _ _ _ _ _ _ _ _ _ _ _)
      | (with_reducible exact ih5 _ _ _ _ _ _ _ _ _ _)
      | (with_reducible exact LeO.refl _)
      | (with_reducible exact LeO.none _)
      | (with_reducible refine LeO.ite ?_ ?_)
      | (with_reducible refine LeO.bind ?_ (fun _ => ?_))
      | exact ih0 _ _ _
      | exact ih1 _ _ _ _ _ _ _
      | exact ih2 _ _ _ _ _ _ _ _ _
      | exact ih3 _ _ _ _ _ _ _ _ _ _ _ _
      | exact ih4 _ _ _ _ _ _ _ _ _ _ _ _ _
      | exact ih5 _ _ _ _ _ _ _ _ _ _
      | exact LeO.none _
      | refine LeO.ite ?_ ?_
      | refine LeO.bind ?_ (fun _ => ?_)
    · intro y0 y1 y2 y3 y4 y5 y6 y7 y8 y9
      unfold bywashlaw12_WindowPlays.j5
      repeat' first
      | (with_reducible exact ih0 _ _ _)
      | (with_reducible exact ih1 _ _ _ _ _ _ _)
      | (with_reducible exact ih2 _ _ _ _ _ _ _ _ _)
      | (with_reducible exact ih3 _ _ _ _ _ _ _ _ _ _ _ _)
      | (with_reducible exact ih4 _ _ _ _ _ _ _ _ _ _ _ _ _)
      | (with_reducible exact ih5 _ _ _ _ _ _ _ _ _ _)
      | (with_reducible exact LeO.refl _)
      | (with_reducible exact LeO.none _)
      | (with_reducible refine LeO.ite ?_ ?_)
      | (with_reducible refine LeO.bind ?_ (fun _ => ?_))
      | exact ih0 _ _ _
      | exact ih1 _ _ _ _ _ _ _
      | exact ih2 _ _ _ _ _ _ _ _ _
      | exact ih3 _ _ _ _ _ _ _ _ _ _ _ _
      | exact ih4 _ _ _ _ _ _ _ _ _ _ _ _ _
      | exact ih5 _ _ _ _ _ _ _ _ _ _
      | exact LeO.none _
      | refine LeO.ite ?_ ?_
      | refine LeO.bind ?_ (fun _ => ?_)
theorem bywashlaw12_WindowPlays.mono : ∀ a0 a1 k, LeO (bywashlaw12_WindowPlays.f k a0 a1) (bywashlaw12_WindowPlays.f (k + 1) a0 a1) := by
  intro a0 a1 k
  obtain ⟨ih0, ih1, ih2, ih3, ih4, ih5⟩ := bywashlaw12_WindowPlays.mono_l k
  unfold bywashlaw12_WindowPlays.f
  repeat' first
      | (with_reducible exact ih0 _ _ _)
      | (with_reducible exact ih1 _ _ _ _ _ _ _)
      | (with_reducible exact ih2 _ _ _ _ _ _ _ _ _)
      | (with_reducible exact ih3 _ _ _ _ _ _ _ _ _ _ _ _)
      | (with_reducible exact ih4 _ _ _ _ _ _ _ _ _ _ _ _ _)
      | (with_reducible exact ih5 _ _ _ _ _ _ _ _ _ _)
      | (with_reducible exact LeO.refl _)
      | (with_reducible exact LeO.none _)
      | (with_reducible refine LeO.ite ?_ ?_)
      | (with_reducible refine LeO.bind ?_ (fun _ => ?_))
      | exact ih0 _ _ _
      | exact ih1 _ _ _ _ _ _ _
      | exact ih2 _ _ _ _ _ _ _ _ _
      | exact ih3 _ _ _ _ _ _ _ _ _ _ _ _
      | exact ih4 _ _ _ _ _ _ _ _ _ _ _ _ _
      | exact ih5 _ _ _ _ _ _ _ _ _ _
      | exact LeO.none _
      | refine LeO.ite ?_ ?_
      | refine LeO.bind ?_ (fun _ => ?_)
def bywashlaw12_WindowPlays.T36 : Bool × List (List Nat × List Nat) := (true, [([], []), ([0], [0]), ([], []), ([1, 2], [1, 2]), ([3, 1], [3]), ([4], [4]), ([4], [4]), ([5, 6, 4], [4, 5, 6]), ([4, 7], [4, 7]), ([8, 4], [8]), ([9], [9]), ([9], [9]), ([10, 11, 9], [9, 10, 11]), ([9, 12], [9, 12])])
def bywashlaw12_WindowPlays.B36 : List Nat := [0, 1, 0, 7, 15, 31, 31, 127, 255, 511, 1023, 1023, 4095, 8191]
theorem bywashlaw12_WindowPlays.tab36 : rtab .any (opsOf Try.f8 36) = bywashlaw12_WindowPlays.T36 := by kernel_rfl
theorem bywashlaw12_WindowPlays.bits36 : waitsOk bywashlaw12_WindowPlays.T36.2 bywashlaw12_WindowPlays.B36 = true := by kernel_rfl
set_option maxHeartbeats 8000000 in
set_option maxRecDepth 100000 in
theorem bywashlaw12_WindowPlays.calls (k : Nat) (a0 : Int) (A1 : Option Addr) (c1 : Nat) (l1 : List (S38)) (r : Bool) (w : World) (hr1 : Kd.C k38 w A1 l1.length l1) (hc1 : l1.length ≤ c1) (h : bywashlaw12_WindowPlays.f k a0 l1 = some r) :
    Calls Try.prog 8 #[.int .i64 a0, .slice A1 l1.length c1] w fun e w' => e = .returned (.bool r) ∧ Below w.heap.size w w' := by
  have hu25 := Try.underlying25
  have hu35 := Try.underlying35
  have hu38 := Try.underlying38
  have HR1 := Aside0.mk hr1
  have HC1 := Aside0.mk hc1
  clear hr1 hc1
  have HB := Aside0.mk (Below.refl w.heap.size w)
  have H : (if (l1.length : Int) > 100 then (bywashlaw12_WindowPlays.j0 k a0 l1 true) else ((bywashlaw12_alive.f).bind fun t144 => (bywashlaw12_WindowPlays.j0 k a0 l1 (!t144)))) = some r := h
  clear h
  have HC3 := Aside0.mk H
  clear H
  go_enter Try.func8, Try.ntmps8
  go_upto_region 1 with (fail)
  go_cut [22] (fun v22 wc => ∃ (kq : Nat) (x22_2 : Bool), v22 = .bool x22_2 ∧ Aside0 (bywashlaw12_WindowPlays.j0 kq a0 l1 x22_2 = some r) ∧ Aside0 (kq ≤ k) ∧ Aside0 (Below w.heap.size w wc))
  case first =>
    have H := HC3.out
    clear HC3
    by_cases c4 : (l1.length : Int) > 100
    · rw [if_pos c4] at H
      have c4b0 : decide (100 < (l1.length : Int)) = true := decide_eq_true c4
      have c4b1 : decide (100 < l1.length) = true := decide_eq_true (by omega)
      clear c4
      (first | rw [c4b0] | (simp only [i64_w, i32_w]; rw [c4b0]) | skip)
      have H' := Aside0.mk H
      clear H
      go_wp2
      go_meet
      case rel => exact ⟨_, (true), (by first | rfl | (simp; done) | (simp [*]; done)), H', ⟨by first | omega | exact Nat.le_refl _⟩, ⟨by repeat (first | (with_reducible first | exact HB.out | apply below_alloc | apply pw_below_drewN | apply below_drew1) | exact HB.out)⟩⟩
    · rw [if_neg c4] at H
      have c4b0 : decide (100 < (l1.length : Int)) = false := decide_eq_false c4
      have c4b1 : decide (100 < l1.length) = false := decide_eq_false (by omega)
      clear c4
      (first | rw [c4b0] | (simp only [i64_w, i32_w]; rw [c4b0]) | skip)
      replace H := Option.bind_eq_some_iff.mp H
      obtain ⟨t144, A50, H⟩ := H
      replace H : (bywashlaw12_WindowPlays.j0 k a0 l1 (!t144)) = some r := H
      have A5 := Aside0.mk A50
      clear A50
      have H' := Aside0.mk H
      clear H
      go_wp2_with (first | (go_at_call 9; (with_reducible refine (bywashlaw12_alive.calls  t144 _ A5.out).mono ?_); rintro e w6 ⟨rfl, hb⟩; have n0_ := Aside0.mk (below_step (by repeat (first | (with_reducible first | exact HB.out | apply below_alloc | apply pw_below_drewN | apply below_drew1) | exact HB.out)) hb); clear HB; have HB := n0_; clear n0_; (try clear hb); (try clear hb2); (try clear hk); (try clear hi)))
      go_meet
      case rel => exact ⟨_, (!t144), (by first | rfl | (simp; done) | (simp [*]; done)), H', ⟨by first | omega | exact Nat.le_refl _⟩, ⟨by repeat (first | (with_reducible first | exact HB.out | apply below_alloc | apply pw_below_drewN | apply below_drew1) | exact HB.out)⟩⟩
  case rest =>
    clear HC3
    try clear c1
    try clear p2
    try clear c4
    try clear c4b0
    try clear c4b1
    obtain ⟨kq, x22_2, rfl, HA, HJ2, HB⟩ := hcut
    cases kq with
    | zero => exact absurd HA.out (by simp [bywashlaw12_WindowPlays.j0])
    | succ kj2 =>
      have H := HA.out
      clear HA
      simp only [bywashlaw12_WindowPlays.j0] at H
      by_cases c7 : x22_2 = true
      · subst c7
        have H1 : ((bywashlaw12_alive.f).bind fun t145 => (some t145)) = some r := by rw [if_pos rfl] at H; exact H
        clear H
        have H := H1
        clear H1
        replace H := Option.bind_eq_some_iff.mp H
        obtain ⟨t145, A80, H⟩ := H
        replace H : (some t145) = some r := H
        have A8 := Aside0.mk A80
        clear A80
        obtain rfl := Option.some.inj H
        go_wp2_with (first | ((with_reducible refine gate_callee (f := 9) rfl ?_); refine goesL_ (some 23) rfl rfl Try.func9 (by kernel_rfl) rfl #[] rfl (by (try simp only [List.map_toArray, List.map_cons, List.map_nil]); first | done | rfl | (simp only [List.length_drop, List.length_take]; rfl)) ?_; (with_reducible refine (bywashlaw12_alive.calls  t145 _ A8.out).mono ?_); rintro e w9 ⟨rfl, hb⟩; refine ⟨_, rfl, ?_⟩; have n0_ := Aside0.mk (below_step (by repeat (first | (with_reducible first | exact HB.out | apply below_alloc | apply pw_below_drewN | apply below_drew1) | exact HB.out)) hb); clear HB; have HB := n0_; clear n0_; (try clear hb); (try clear hb2); (try clear hk); (try clear hi)))
        go_ret
        exact ⟨by first | rfl | (simp [errW_none, errW_some] <;> rfl) | (simp [*, errW_none, errW_some] <;> rfl), by repeat (first | (with_reducible first | exact HB.out | apply below_alloc | apply pw_below_drewN | apply below_drew1) | exact HB.out)⟩
      · replace c7 := Bool.eq_false_iff.mpr c7
        subst c7
        have H1 : ((window_New.f a0).bind fun bt146 => (if a0 ≥ 0 then (bywashlaw12_WindowPlays.j1 kj2 a0 l1 bt146.2.2.2 (bt146.2.2.2 != (decide (a0 ≤ 2147483647))) bt146.1 bt146.2.1 bt146.2.2.1) else (bywashlaw12_WindowPlays.j1 kj2 a0 l1 bt146.2.2.2 (bt146.2.2.2 != false) bt146.1 bt146.2.1 bt146.2.2.1))) = some r := by rw [if_neg (show ¬ (false = true) by decide)] at H; exact H
        clear H
        have H := H1
        clear H1
        replace H := Option.bind_eq_some_iff.mp H
        obtain ⟨⟨t146, t147, t148, t149⟩, A100, H⟩ := H
        replace H : (if a0 ≥ 0 then (bywashlaw12_WindowPlays.j1 kj2 a0 l1 t149 (t149 != (decide (a0 ≤ 2147483647))) t146 t147 t148) else (bywashlaw12_WindowPlays.j1 kj2 a0 l1 t149 (t149 != false) t146 t147 t148)) = some r := H
        have A10 := Aside0.mk A100
        clear A100
        have HC11 := Aside0.mk H
        clear H
        go_upto_region 4 with (first | ((with_reducible refine gate_callee (f := 10) rfl ?_); refine goesL_ (some 26) rfl rfl Try.func10 (by kernel_rfl) rfl #[.int .i64 a0] rfl (by (try simp only [List.map_toArray, List.map_cons, List.map_nil]); first | done | rfl | (simp only [List.length_drop, List.length_take]; rfl)) ?_; (with_reducible refine (window_New.calls a0 t146 t147 t148 t149 _ A10.out).mono ?_); rintro e w12 ⟨rfl, hb⟩; refine ⟨_, rfl, ?_⟩; have n0_ := Aside0.mk (below_step (by repeat (first | (with_reducible first | exact HB.out | apply below_alloc | apply pw_below_drewN | apply below_drew1) | exact HB.out)) hb); clear HB; have HB := n0_; clear n0_; (try clear hb); (try clear hb2); (try clear hk); (try clear hi)) | ((with_reducible refine gate_dst (N := 5) rfl ?_); refine box_event ?hg (N := 5) ?hd (cs := #[.int .i64 0, .int .i64 0, .int .i64 0]) (t := 25) ?hr ?_; (case hd => rfl); (case hg => rfl); (case hr => first | (go_simp; done) | (go_simp; rfl)); intro gb150 hg w13 hbox hb; have n0_ := Aside0.mk (below_step (by repeat (first | (with_reducible first | exact HB.out | apply below_alloc | apply pw_below_drewN | apply below_drew1) | exact HB.out)) hb); have n1_ := Aside0.mk (hbox); have n2_ := Aside0.mk ((by rw [hg]; exact (below_size (by repeat (first | (with_reducible first | exact HB.out | apply below_alloc | apply pw_below_drewN | apply below_drew1) | exact HB.out))) : w.heap.size ≤ gb150)); have n3_ := Aside0.mk ((by rw [hg]; exact (below_size (by repeat (first | (with_reducible first | exact HB.out | apply below_alloc | apply pw_below_drewN | apply below_drew1) | exact HB.out))) : w.heap.size ≤ gb150)); clear HB; have HB := n0_; have BK150 := n1_; have GW150 := n2_; have GE150 := n3_; clear n0_ n1_ n2_ n3_; clear hb hbox hg; have hcz14_0 : w13.cell? ⟨gb150, 0, none⟩ = some (.int .i64 0) := (blk_cell BK150.out 0).trans rfl; have hcz14_1 : w13.cell? ⟨gb150, 1, none⟩ = some (.int .i64 0) := (blk_cell BK150.out 1).trans rfl; have hcz14_2 : w13.cell? ⟨gb150, 2, none⟩ = some (.int .i64 0) := (blk_cell BK150.out 2).trans rfl; have hfz14_0 := blk_frozen BK150.out 0; have hfz14_1 := blk_frozen BK150.out 1; have hfz14_2 := blk_frozen BK150.out 2))
        (try simp only [Act.put, List.setIfInBounds_toArray, List.set_cons_zero, List.set_cons_succ])
        go_cut [36] (fun v36 wc => ∃ (kq : Nat) (x36_10 : Bool), v36 = .bool x36_10 ∧ Aside0 (bywashlaw12_WindowPlays.j1 kq a0 l1 t149 x36_10 t146 t147 t148 = some r) ∧ Aside0 (kq ≤ kj2) ∧ Aside0 (wc.heap[gb150]? = some (.cells #[.int .i64 t146, .int .i64 t147, .int .i64 t148] 25 (0, 0))) ∧ Aside0 (Below w.heap.size w wc))
        case first =>
          have H := HC11.out
          clear HC11
          by_cases c15 : a0 ≥ 0
          · rw [if_pos c15] at H
            have c15b0 : decide (0 ≤ a0) = true := decide_eq_true c15
            clear c15
            (first | rw [c15b0] | (simp only [i64_w, i32_w]; rw [c15b0]) | skip)
            have H' := Aside0.mk H
            clear H
            go_wp2
            go_meet
            case rel => exact ⟨_, ((t149 != (decide (a0 ≤ 2147483647)))), (by first | rfl | (simp; done) | (simp [*]; done)), H', ⟨by have := HJ2.out; first | omega | exact Nat.le_refl _⟩, ⟨by (with_reducible repeat (first | refine blk_drewN ?_ _ | refine blk_drew ?_ | refine blk_alloc ?_ _)); refine blk_put (cs := #[.int .i64 t146, .int .i64 t147, .int .i64 0]) ?_ 2 _ rfl; (with_reducible repeat (first | refine blk_drewN ?_ _ | refine blk_drew ?_ | refine blk_alloc ?_ _)); refine blk_put (cs := #[.int .i64 t146, .int .i64 0, .int .i64 0]) ?_ 1 _ rfl; (with_reducible repeat (first | refine blk_drewN ?_ _ | refine blk_drew ?_ | refine blk_alloc ?_ _)); refine blk_put (cs := #[.int .i64 0, .int .i64 0, .int .i64 0]) ?_ 0 _ rfl; (with_reducible repeat (first | refine blk_drewN ?_ _ | refine blk_drew ?_ | refine blk_alloc ?_ _)); exact BK150.out⟩, ⟨by repeat (first | (with_reducible first | exact HB.out | apply below_alloc | apply pw_below_drewN | apply below_drew1 | refine below_set ?_ GE150.out) | exact HB.out)⟩⟩
          · rw [if_neg c15] at H
            have c15b0 : decide (0 ≤ a0) = false := decide_eq_false c15
            clear c15
            (first | rw [c15b0] | (simp only [i64_w, i32_w]; rw [c15b0]) | skip)
            have H' := Aside0.mk H
            clear H
            go_wp2
            go_meet
            case rel => exact ⟨_, ((t149 != false)), (by first | rfl | (simp; done) | (simp [*]; done)), H', ⟨by have := HJ2.out; first | omega | exact Nat.le_refl _⟩, ⟨by (with_reducible repeat (first | refine blk_drewN ?_ _ | refine blk_drew ?_ | refine blk_alloc ?_ _)); refine blk_put (cs := #[.int .i64 t146, .int .i64 t147, .int .i64 0]) ?_ 2 _ rfl; (with_reducible repeat (first | refine blk_drewN ?_ _ | refine blk_drew ?_ | refine blk_alloc ?_ _)); refine blk_put (cs := #[.int .i64 t146, .int .i64 0, .int .i64 0]) ?_ 1 _ rfl; (with_reducible repeat (first | refine blk_drewN ?_ _ | refine blk_drew ?_ | refine blk_alloc ?_ _)); refine blk_put (cs := #[.int .i64 0, .int .i64 0, .int .i64 0]) ?_ 0 _ rfl; (with_reducible repeat (first | refine blk_drewN ?_ _ | refine blk_drew ?_ | refine blk_alloc ?_ _)); exact BK150.out⟩, ⟨by repeat (first | (with_reducible first | exact HB.out | apply below_alloc | apply pw_below_drewN | apply below_drew1 | refine below_set ?_ GE150.out) | exact HB.out)⟩⟩
        case rest =>
          clear HC11
          try clear c1
          try clear p2
          try clear c4
          try clear c4b0
          try clear c4b1
          try clear c7
          try clear c8
          try clear c9
          try clear c10
          try clear c15
          try clear c15b0
          try clear hcz14_0
          try clear hcz14_1
          try clear hcz14_2
          try clear hfz14_0
          try clear hfz14_1
          try clear hfz14_2
          try clear p2
          obtain ⟨kq, x36_10, rfl, HA, HJ10, BK150, HB⟩ := hcut
          cases kq with
          | zero => exact absurd HA.out (by simp [bywashlaw12_WindowPlays.j1])
          | succ kj10 =>
            have H := HA.out
            clear HA
            simp only [bywashlaw12_WindowPlays.j1] at H
            by_cases c16 : x36_10 = true
            · subst c16
              have H1 : (some false) = some r := by rw [if_pos rfl] at H; exact H
              clear H
              have H := H1
              clear H1
              obtain rfl := Option.some.inj H
              go_wp2
              go_ret
              exact ⟨by first | rfl | (simp [errW_none, errW_some] <;> rfl) | (simp [*, errW_none, errW_some] <;> rfl), by repeat (first | (with_reducible first | exact HB.out | apply below_alloc | apply pw_below_drewN | apply below_drew1 | refine below_set ?_ GE150.out) | exact HB.out)⟩
            · replace c16 := Bool.eq_false_iff.mpr c16
              subst c16
              have H1 : (if t149 = true then ((bywashlaw12_Ref.f t146 t147 t148).bind fun bt152 => (if (!(bt152.1 == a0) || (!(bt152.2.1 == a0) || (!(bt152.2.2 == 0)))) = true then (some false) else (bywashlaw12_WindowPlays.l0 kj10 l1 (l1.length : Int) 0 t146 t147 t148 a0 a0 0))) else (some (t146 == 0 && (t147 == 0 && (t148 == 0))))) = some r := by rw [if_neg (show ¬ (false = true) by decide)] at H; exact H
              clear H
              have H := H1
              clear H1
              by_cases c17 : t149 = true
              · subst c17
                have H1 : ((bywashlaw12_Ref.f t146 t147 t148).bind fun bt152 => (if (!(bt152.1 == a0) || (!(bt152.2.1 == a0) || (!(bt152.2.2 == 0)))) = true then (some false) else (bywashlaw12_WindowPlays.l0 kj10 l1 (l1.length : Int) 0 t146 t147 t148 a0 a0 0))) = some r := by rw [if_pos rfl] at H; exact H
                clear H
                have H := H1
                clear H1
                replace H := Option.bind_eq_some_iff.mp H
                obtain ⟨⟨t152, t153, t154⟩, A180, H⟩ := H
                replace H : (if (!(t152 == a0) || (!(t153 == a0) || (!(t154 == 0)))) = true then (some false) else (bywashlaw12_WindowPlays.l0 kj10 l1 (l1.length : Int) 0 t146 t147 t148 a0 a0 0)) = some r := H
                have A18 := Aside0.mk A180
                clear A180
                by_cases c19 : (!(t152 == a0) || (!(t153 == a0) || (!(t154 == 0)))) = true
                · rw [if_pos c19] at H
                  have c19b0 : (!(t152 == a0) || (!(t153 == a0) || (!(t154 == 0)))) = true := c19
                  clear c19
                  obtain rfl := Option.some.inj H
                  try go_wp2_with (first | ((with_reducible refine gate_dst (N := 7) rfl ?_); refine box_event ?hg (N := 7) ?hd (cs := #[.int .i64 0, .int .i64 0, .int .i64 0]) (t := 35) ?hr ?_; (case hd => rfl); (case hg => rfl); (case hr => first | (go_simp; done) | (go_simp; rfl)); intro gb151 hg w20 hbox hb; have n0_ := Aside0.mk (blk_below (g := gb150) (o := .cells #[.int .i64 t146, .int .i64 t147, .int .i64 t148] 25 (0, 0)) (by (with_reducible repeat (first | refine blk_drewN ?_ _ | refine blk_drew ?_ | refine blk_alloc ?_ _)); exact BK150.out) hb); have n1_ := Aside0.mk (below_step (by repeat (first | (with_reducible first | exact HB.out | apply below_alloc | apply pw_below_drewN | apply below_drew1 | refine below_set ?_ GE150.out) | exact HB.out)) hb); have n2_ := Aside0.mk (hbox); have n3_ := Aside0.mk ((by rw [hg]; exact (below_size (by repeat (first | (with_reducible first | exact HB.out | apply below_alloc | apply pw_below_drewN | apply below_drew1 | refine below_set ?_ GE150.out) | exact HB.out))) : w.heap.size ≤ gb151)); have n4_ := Aside0.mk ((by rw [hg]; exact (below_size (by repeat (first | (with_reducible first | exact HB.out | apply below_alloc | apply pw_below_drewN | apply below_drew1 | refine below_set ?_ GE150.out) | exact HB.out))) : w.heap.size ≤ gb151)); have n5_ := Aside0.mk ((by rw [hg]; exact Nat.ne_of_lt (blk_lt (g := gb150) (o := .cells #[.int .i64 t146, .int .i64 t147, .int .i64 t148] 25 (0, 0)) (by (with_reducible repeat (first | refine blk_drewN ?_ _ | refine blk_drew ?_ | refine blk_alloc ?_ _)); exact BK150.out)) : gb150 ≠ gb151)); have n6_ := Aside0.mk ((by rw [hg]; exact Nat.ne_of_gt (blk_lt (g := gb150) (o := .cells #[.int .i64 t146, .int .i64 t147, .int .i64 t148] 25 (0, 0)) (by (with_reducible repeat (first | refine blk_drewN ?_ _ | refine blk_drew ?_ | refine blk_alloc ?_ _)); exact BK150.out)) : gb151 ≠ gb150)); clear BK150; clear HB; have BK150 := n0_; have HB := n1_; have BK151 := n2_; have GW151 := n3_; have GE151 := n4_; have NB150_151 := n5_; have NB151_150 := n6_; clear n0_ n1_ n2_ n3_ n4_ n5_ n6_; clear hb hbox hg; have hnb21 := NB151_150.out; have hnc21 := NB150_151.out; have hcz22_0 : w20.cell? ⟨gb151, 0, none⟩ = some (.int .i64 0) := (blk_cell BK151.out 0).trans rfl; have hcz22_1 : w20.cell? ⟨gb151, 1, none⟩ = some (.int .i64 0) := (blk_cell BK151.out 1).trans rfl; have hcz22_2 : w20.cell? ⟨gb151, 2, none⟩ = some (.int .i64 0) := (blk_cell BK151.out 2).trans rfl; have hfz22_0 := blk_frozen BK151.out 0; have hfz22_1 := blk_frozen BK151.out 1; have hfz22_2 := blk_frozen BK151.out 2))
                  have n0_ : Aside0 ((((w20.setCell ⟨gb151, 0, none⟩ (.int .i64 a0)).setCell ⟨gb151, 1, none⟩ (.int .i64 a0)).setCell ⟨gb151, 2, none⟩ (.int .i64 0)).heap[gb150]? = some (.cells #[.int .i64 t146, .int .i64 t147, .int .i64 t148] 25 (0, 0))) := ⟨by (with_reducible repeat (first | refine blk_drewN ?_ _ | refine blk_drew ?_ | refine blk_alloc ?_ _)); refine blk_far ?_ NB150_151.out _; (with_reducible repeat (first | refine blk_drewN ?_ _ | refine blk_drew ?_ | refine blk_alloc ?_ _)); refine blk_far ?_ NB150_151.out _; (with_reducible repeat (first | refine blk_drewN ?_ _ | refine blk_drew ?_ | refine blk_alloc ?_ _)); refine blk_far ?_ NB150_151.out _; (with_reducible repeat (first | refine blk_drewN ?_ _ | refine blk_drew ?_ | refine blk_alloc ?_ _)); exact BK150.out⟩
                  have n1_ : Aside0 ((((w20.setCell ⟨gb151, 0, none⟩ (.int .i64 a0)).setCell ⟨gb151, 1, none⟩ (.int .i64 a0)).setCell ⟨gb151, 2, none⟩ (.int .i64 0)).heap[gb151]? = some (.cells #[.int .i64 a0, .int .i64 a0, .int .i64 0] 35 (0, 0))) := ⟨by (with_reducible repeat (first | refine blk_drewN ?_ _ | refine blk_drew ?_ | refine blk_alloc ?_ _)); refine blk_put (cs := #[.int .i64 a0, .int .i64 a0, .int .i64 0]) ?_ 2 _ rfl; (with_reducible repeat (first | refine blk_drewN ?_ _ | refine blk_drew ?_ | refine blk_alloc ?_ _)); refine blk_put (cs := #[.int .i64 a0, .int .i64 0, .int .i64 0]) ?_ 1 _ rfl; (with_reducible repeat (first | refine blk_drewN ?_ _ | refine blk_drew ?_ | refine blk_alloc ?_ _)); refine blk_put (cs := #[.int .i64 0, .int .i64 0, .int .i64 0]) ?_ 0 _ rfl; (with_reducible repeat (first | refine blk_drewN ?_ _ | refine blk_drew ?_ | refine blk_alloc ?_ _)); exact BK151.out⟩
                  have n2_ : Aside0 (Below w.heap.size w (((w20.setCell ⟨gb151, 0, none⟩ (.int .i64 a0)).setCell ⟨gb151, 1, none⟩ (.int .i64 a0)).setCell ⟨gb151, 2, none⟩ (.int .i64 0))) := ⟨by repeat (first | (with_reducible first | exact HB.out | apply below_alloc | apply pw_below_drewN | apply below_drew1 | refine below_set ?_ GE150.out | refine below_set ?_ GE151.out) | exact HB.out)⟩
                  (try clear BK150)
                  (try clear BK151)
                  (try clear HB)
                  generalize (((w20.setCell ⟨gb151, 0, none⟩ (.int .i64 a0)).setCell ⟨gb151, 1, none⟩ (.int .i64 a0)).setCell ⟨gb151, 2, none⟩ (.int .i64 0)) = w23 at n0_ n1_ n2_ ⊢
                  have BK150 := n0_
                  have BK151 := n1_
                  have HB := n2_
                  clear n0_ n1_ n2_
                  have n0_ := Aside0.mk (blk_drew BK150.out)
                  have n1_ := Aside0.mk (blk_drew BK151.out)
                  have n2_ := Aside0.mk (below_drew1 HB.out)
                  clear BK150
                  clear BK151
                  clear HB
                  have BK150 := n0_
                  have BK151 := n1_
                  have HB := n2_
                  clear n0_ n1_ n2_
                  refine start_ (n := 4) (S := fun w' => w'.cell? ⟨gb150, 0, none⟩ = some (.int .i64 t146) ∧ w'.cell? ⟨gb150, 1, none⟩ = some (.int .i64 t147) ∧ w'.cell? ⟨gb150, 2, none⟩ = some (.int .i64 t148) ∧ w'.cell? ⟨gb151, 0, none⟩ = some (.int .i64 a0) ∧ w'.cell? ⟨gb151, 1, none⟩ = some (.int .i64 a0) ∧ w'.cell? ⟨gb151, 2, none⟩ = some (.int .i64 0)) (ds := []) #[false, false, false, false] (by kernel_rfl) rfl rfl ⟨(blk_cell BK150.out 0).trans rfl, (blk_cell BK150.out 1).trans rfl, (blk_cell BK150.out 2).trans rfl, (blk_cell BK151.out 0).trans rfl, (blk_cell BK151.out 1).trans rfl, (blk_cell BK151.out 2).trans rfl⟩ (fun hHeld => ?_)
                  generalize w23.drew = w24 at BK150 BK151 HB hHeld ⊢
                  refine take_ (i := 0) (N := some 45) (v := ?_) (a' := ?_) #[true, false, false, false] rfl rfl (by kernel_rfl) (fun _ _ _ h => h) (Or.inl ⟨by rfl, ?_⟩) hHeld ?_ ?_
                  rotate_left
                  · rintro w' ⟨s0, s1, s2, s3, s4, s5⟩
                    go_simp
                    with_reducible rfl
                  rotate_left
                  · simp only [Act.put, List.setIfInBounds_toArray, List.set_cons_zero, List.set_cons_succ, i64_w, i32_w]
                    rfl
                  refine take_ (i := 2) (N := some 47) (v := ?_) (a' := ?_) #[true, false, true, false] rfl rfl (by kernel_rfl) (fun _ _ _ h => h) (Or.inl ⟨by rfl, ?_⟩) hHeld ?_ ?_
                  rotate_left
                  · rintro w' ⟨s0, s1, s2, s3, s4, s5⟩
                    go_simp
                    with_reducible rfl
                  rotate_left
                  · simp only [Act.put, List.setIfInBounds_toArray, List.set_cons_zero, List.set_cons_succ, i64_w, i32_w]
                    rfl
                  refine one_ (i := 1) (N := some 46) #[true, true, true, false] rfl rfl (by kernel_rfl) (by decide) (fun K hK => ?_)
                  refine goes_ Try.func16 (by kernel_rfl) rfl #[.agg #[.int .i64 t146, .int .i64 t147, .int .i64 t148]] (by rfl) rfl rfl (by (try simp only [List.map_toArray, List.map_cons, List.map_nil]); first | done | rfl | (simp only [List.length_drop, List.length_take]; rfl)) ?_
                  with_reducible refine (bywashlaw12_Ref.calls t146 t147 t148 t152 t153 t154 _ A18.out).mono ?_
                  rintro e w25 ⟨rfl, hb⟩
                  refine ⟨_, rfl, ?_⟩
                  have n0_ := Aside0.mk (blk_below (g := gb150) (o := .cells #[.int .i64 t146, .int .i64 t147, .int .i64 t148] 25 (0, 0)) (by (with_reducible repeat (first | refine blk_drewN ?_ _ | refine blk_drew ?_ | refine blk_alloc ?_ _)); exact BK150.out) hb)
                  have n1_ := Aside0.mk (blk_below (g := gb151) (o := .cells #[.int .i64 a0, .int .i64 a0, .int .i64 0] 35 (0, 0)) (by (with_reducible repeat (first | refine blk_drewN ?_ _ | refine blk_drew ?_ | refine blk_alloc ?_ _)); exact BK151.out) hb)
                  have n2_ := Aside0.mk (below_step (by repeat (first | (with_reducible first | exact HB.out | apply below_alloc | apply pw_below_drewN | apply below_drew1 | refine below_set ?_ GE150.out | refine below_set ?_ GE151.out) | exact HB.out)) hb)
                  clear BK150
                  clear BK151
                  clear HB
                  have BK150 := n0_
                  have BK151 := n1_
                  have HB := n2_
                  clear n0_ n1_ n2_
                  (try clear hb)
                  (try clear hb2)
                  (try clear hk)
                  (try clear hi)
                  refine hK.out _ _ ⟨(blk_cell BK150.out 0).trans rfl, (blk_cell BK150.out 1).trans rfl, (blk_cell BK150.out 2).trans rfl, (blk_cell BK151.out 0).trans rfl, (blk_cell BK151.out 1).trans rfl, (blk_cell BK151.out 2).trans rfl⟩ (fun hHeld => ?_)
                  clear hK K
                  refine norm_ (a' := ?_) ?_ ?_
                  rotate_left
                  · show Act.put _ (some 46) _ = _
                    simp only [Act.put, List.setIfInBounds_toArray, List.set_cons_zero, List.set_cons_succ, i64_w, i32_w]
                    rfl
                  refine pure_ (i := 3) (N := some 48) (v := ?_) (a' := ?_) #[true, true, true, true] rfl rfl (by kernel_rfl) (fun _ _ _ h => h) (Or.inl ⟨by rfl, ?_⟩) ?_ ?_
                  rotate_left
                  · intro w'
                    go_simp
                    with_reducible rfl
                  rotate_left
                  · simp only [Act.put, List.setIfInBounds_toArray, List.set_cons_zero, List.set_cons_succ, i64_w, i32_w]
                    rfl
                  refine done_ (by kernel_rfl) ?_
                  try go_wp2
                  go_ret
                  exact ⟨by first | rfl | (simp [errW_none, errW_some] <;> rfl) | (simp [*, errW_none, errW_some] <;> rfl), by repeat (first | (with_reducible first | exact HB.out | apply below_alloc | apply pw_below_drewN | apply below_drew1 | refine below_set ?_ GE150.out | refine below_set ?_ GE151.out) | exact HB.out)⟩
                · rw [if_neg c19] at H
                  have c19b0 : (!(t152 == a0) || (!(t153 == a0) || (!(t154 == 0)))) = false := by simpa using c19
                  clear c19
                  have H' := Aside0.mk H
                  clear H
                  try go_wp2_with (first | ((with_reducible refine gate_dst (N := 7) rfl ?_); refine box_event ?hg (N := 7) ?hd (cs := #[.int .i64 0, .int .i64 0, .int .i64 0]) (t := 35) ?hr ?_; (case hd => rfl); (case hg => rfl); (case hr => first | (go_simp; done) | (go_simp; rfl)); intro gb151 hg w26 hbox hb; have n0_ := Aside0.mk (blk_below (g := gb150) (o := .cells #[.int .i64 t146, .int .i64 t147, .int .i64 t148] 25 (0, 0)) (by (with_reducible repeat (first | refine blk_drewN ?_ _ | refine blk_drew ?_ | refine blk_alloc ?_ _)); exact BK150.out) hb); have n1_ := Aside0.mk (below_step (by repeat (first | (with_reducible first | exact HB.out | apply below_alloc | apply pw_below_drewN | apply below_drew1 | refine below_set ?_ GE150.out) | exact HB.out)) hb); have n2_ := Aside0.mk (hbox); have n3_ := Aside0.mk ((by rw [hg]; exact (below_size (by repeat (first | (with_reducible first | exact HB.out | apply below_alloc | apply pw_below_drewN | apply below_drew1 | refine below_set ?_ GE150.out) | exact HB.out))) : w.heap.size ≤ gb151)); have n4_ := Aside0.mk ((by rw [hg]; exact (below_size (by repeat (first | (with_reducible first | exact HB.out | apply below_alloc | apply pw_below_drewN | apply below_drew1 | refine below_set ?_ GE150.out) | exact HB.out))) : w.heap.size ≤ gb151)); have n5_ := Aside0.mk ((by rw [hg]; exact Nat.ne_of_lt (blk_lt (g := gb150) (o := .cells #[.int .i64 t146, .int .i64 t147, .int .i64 t148] 25 (0, 0)) (by (with_reducible repeat (first | refine blk_drewN ?_ _ | refine blk_drew ?_ | refine blk_alloc ?_ _)); exact BK150.out)) : gb150 ≠ gb151)); have n6_ := Aside0.mk ((by rw [hg]; exact Nat.ne_of_gt (blk_lt (g := gb150) (o := .cells #[.int .i64 t146, .int .i64 t147, .int .i64 t148] 25 (0, 0)) (by (with_reducible repeat (first | refine blk_drewN ?_ _ | refine blk_drew ?_ | refine blk_alloc ?_ _)); exact BK150.out)) : gb151 ≠ gb150)); clear BK150; clear HB; have BK150 := n0_; have HB := n1_; have BK151 := n2_; have GW151 := n3_; have GE151 := n4_; have NB150_151 := n5_; have NB151_150 := n6_; clear n0_ n1_ n2_ n3_ n4_ n5_ n6_; clear hb hbox hg; have hnb27 := NB151_150.out; have hnc27 := NB150_151.out; have hcz28_0 : w26.cell? ⟨gb151, 0, none⟩ = some (.int .i64 0) := (blk_cell BK151.out 0).trans rfl; have hcz28_1 : w26.cell? ⟨gb151, 1, none⟩ = some (.int .i64 0) := (blk_cell BK151.out 1).trans rfl; have hcz28_2 : w26.cell? ⟨gb151, 2, none⟩ = some (.int .i64 0) := (blk_cell BK151.out 2).trans rfl; have hfz28_0 := blk_frozen BK151.out 0; have hfz28_1 := blk_frozen BK151.out 1; have hfz28_2 := blk_frozen BK151.out 2))
                  have n0_ : Aside0 ((((w26.setCell ⟨gb151, 0, none⟩ (.int .i64 a0)).setCell ⟨gb151, 1, none⟩ (.int .i64 a0)).setCell ⟨gb151, 2, none⟩ (.int .i64 0)).heap[gb150]? = some (.cells #[.int .i64 t146, .int .i64 t147, .int .i64 t148] 25 (0, 0))) := ⟨by (with_reducible repeat (first | refine blk_drewN ?_ _ | refine blk_drew ?_ | refine blk_alloc ?_ _)); refine blk_far ?_ NB150_151.out _; (with_reducible repeat (first | refine blk_drewN ?_ _ | refine blk_drew ?_ | refine blk_alloc ?_ _)); refine blk_far ?_ NB150_151.out _; (with_reducible repeat (first | refine blk_drewN ?_ _ | refine blk_drew ?_ | refine blk_alloc ?_ _)); refine blk_far ?_ NB150_151.out _; (with_reducible repeat (first | refine blk_drewN ?_ _ | refine blk_drew ?_ | refine blk_alloc ?_ _)); exact BK150.out⟩
                  have n1_ : Aside0 ((((w26.setCell ⟨gb151, 0, none⟩ (.int .i64 a0)).setCell ⟨gb151, 1, none⟩ (.int .i64 a0)).setCell ⟨gb151, 2, none⟩ (.int .i64 0)).heap[gb151]? = some (.cells #[.int .i64 a0, .int .i64 a0, .int .i64 0] 35 (0, 0))) := ⟨by (with_reducible repeat (first | refine blk_drewN ?_ _ | refine blk_drew ?_ | refine blk_alloc ?_ _)); refine blk_put (cs := #[.int .i64 a0, .int .i64 a0, .int .i64 0]) ?_ 2 _ rfl; (with_reducible repeat (first | refine blk_drewN ?_ _ | refine blk_drew ?_ | refine blk_alloc ?_ _)); refine blk_put (cs := #[.int .i64 a0, .int .i64 0, .int .i64 0]) ?_ 1 _ rfl; (with_reducible repeat (first | refine blk_drewN ?_ _ | refine blk_drew ?_ | refine blk_alloc ?_ _)); refine blk_put (cs := #[.int .i64 0, .int .i64 0, .int .i64 0]) ?_ 0 _ rfl; (with_reducible repeat (first | refine blk_drewN ?_ _ | refine blk_drew ?_ | refine blk_alloc ?_ _)); exact BK151.out⟩
                  have n2_ : Aside0 (Below w.heap.size w (((w26.setCell ⟨gb151, 0, none⟩ (.int .i64 a0)).setCell ⟨gb151, 1, none⟩ (.int .i64 a0)).setCell ⟨gb151, 2, none⟩ (.int .i64 0))) := ⟨by repeat (first | (with_reducible first | exact HB.out | apply below_alloc | apply pw_below_drewN | apply below_drew1 | refine below_set ?_ GE150.out | refine below_set ?_ GE151.out) | exact HB.out)⟩
                  (try clear BK150)
                  (try clear BK151)
                  (try clear HB)
                  generalize (((w26.setCell ⟨gb151, 0, none⟩ (.int .i64 a0)).setCell ⟨gb151, 1, none⟩ (.int .i64 a0)).setCell ⟨gb151, 2, none⟩ (.int .i64 0)) = w29 at n0_ n1_ n2_ ⊢
                  have BK150 := n0_
                  have BK151 := n1_
                  have HB := n2_
                  clear n0_ n1_ n2_
                  have n0_ := Aside0.mk (blk_drew BK150.out)
                  have n1_ := Aside0.mk (blk_drew BK151.out)
                  have n2_ := Aside0.mk (below_drew1 HB.out)
                  clear BK150
                  clear BK151
                  clear HB
                  have BK150 := n0_
                  have BK151 := n1_
                  have HB := n2_
                  clear n0_ n1_ n2_
                  refine start_ (n := 4) (S := fun w' => w'.cell? ⟨gb150, 0, none⟩ = some (.int .i64 t146) ∧ w'.cell? ⟨gb150, 1, none⟩ = some (.int .i64 t147) ∧ w'.cell? ⟨gb150, 2, none⟩ = some (.int .i64 t148) ∧ w'.cell? ⟨gb151, 0, none⟩ = some (.int .i64 a0) ∧ w'.cell? ⟨gb151, 1, none⟩ = some (.int .i64 a0) ∧ w'.cell? ⟨gb151, 2, none⟩ = some (.int .i64 0)) (ds := []) #[false, false, false, false] (by kernel_rfl) rfl rfl ⟨(blk_cell BK150.out 0).trans rfl, (blk_cell BK150.out 1).trans rfl, (blk_cell BK150.out 2).trans rfl, (blk_cell BK151.out 0).trans rfl, (blk_cell BK151.out 1).trans rfl, (blk_cell BK151.out 2).trans rfl⟩ (fun hHeld => ?_)
                  generalize w29.drew = w30 at BK150 BK151 HB hHeld ⊢
                  refine take_ (i := 0) (N := some 45) (v := ?_) (a' := ?_) #[true, false, false, false] rfl rfl (by kernel_rfl) (fun _ _ _ h => h) (Or.inl ⟨by rfl, ?_⟩) hHeld ?_ ?_
                  rotate_left
                  · rintro w' ⟨s0, s1, s2, s3, s4, s5⟩
                    go_simp
                    with_reducible rfl
                  rotate_left
                  · simp only [Act.put, List.setIfInBounds_toArray, List.set_cons_zero, List.set_cons_succ, i64_w, i32_w]
                    rfl
                  refine take_ (i := 2) (N := some 47) (v := ?_) (a' := ?_) #[true, false, true, false] rfl rfl (by kernel_rfl) (fun _ _ _ h => h) (Or.inl ⟨by rfl, ?_⟩) hHeld ?_ ?_
                  rotate_left
                  · rintro w' ⟨s0, s1, s2, s3, s4, s5⟩
                    go_simp
                    with_reducible rfl
                  rotate_left
                  · simp only [Act.put, List.setIfInBounds_toArray, List.set_cons_zero, List.set_cons_succ, i64_w, i32_w]
                    rfl
                  refine one_ (i := 1) (N := some 46) #[true, true, true, false] rfl rfl (by kernel_rfl) (by decide) (fun K hK => ?_)
                  refine goes_ Try.func16 (by kernel_rfl) rfl #[.agg #[.int .i64 t146, .int .i64 t147, .int .i64 t148]] (by rfl) rfl rfl (by (try simp only [List.map_toArray, List.map_cons, List.map_nil]); first | done | rfl | (simp only [List.length_drop, List.length_take]; rfl)) ?_
                  with_reducible refine (bywashlaw12_Ref.calls t146 t147 t148 t152 t153 t154 _ A18.out).mono ?_
                  rintro e w31 ⟨rfl, hb⟩
                  refine ⟨_, rfl, ?_⟩
                  have n0_ := Aside0.mk (blk_below (g := gb150) (o := .cells #[.int .i64 t146, .int .i64 t147, .int .i64 t148] 25 (0, 0)) (by (with_reducible repeat (first | refine blk_drewN ?_ _ | refine blk_drew ?_ | refine blk_alloc ?_ _)); exact BK150.out) hb)
                  have n1_ := Aside0.mk (blk_below (g := gb151) (o := .cells #[.int .i64 a0, .int .i64 a0, .int .i64 0] 35 (0, 0)) (by (with_reducible repeat (first | refine blk_drewN ?_ _ | refine blk_drew ?_ | refine blk_alloc ?_ _)); exact BK151.out) hb)
                  have n2_ := Aside0.mk (below_step (by repeat (first | (with_reducible first | exact HB.out | apply below_alloc | apply pw_below_drewN | apply below_drew1 | refine below_set ?_ GE150.out | refine below_set ?_ GE151.out) | exact HB.out)) hb)
                  clear BK150
                  clear BK151
                  clear HB
                  have BK150 := n0_
                  have BK151 := n1_
                  have HB := n2_
                  clear n0_ n1_ n2_
                  (try clear hb)
                  (try clear hb2)
                  (try clear hk)
                  (try clear hi)
                  refine hK.out _ _ ⟨(blk_cell BK150.out 0).trans rfl, (blk_cell BK150.out 1).trans rfl, (blk_cell BK150.out 2).trans rfl, (blk_cell BK151.out 0).trans rfl, (blk_cell BK151.out 1).trans rfl, (blk_cell BK151.out 2).trans rfl⟩ (fun hHeld => ?_)
                  clear hK K
                  refine norm_ (a' := ?_) ?_ ?_
                  rotate_left
                  · show Act.put _ (some 46) _ = _
                    simp only [Act.put, List.setIfInBounds_toArray, List.set_cons_zero, List.set_cons_succ, i64_w, i32_w]
                    rfl
                  refine pure_ (i := 3) (N := some 48) (v := ?_) (a' := ?_) #[true, true, true, true] rfl rfl (by kernel_rfl) (fun _ _ _ h => h) (Or.inl ⟨by rfl, ?_⟩) ?_ ?_
                  rotate_left
                  · intro w'
                    go_simp
                    with_reducible rfl
                  rotate_left
                  · simp only [Act.put, List.setIfInBounds_toArray, List.set_cons_zero, List.set_cons_succ, i64_w, i32_w]
                    rfl
                  refine done_ (by kernel_rfl) ?_
                  try go_wp2
                  go_loopg [51] kj10 (fun kq v51 w' => ∃ (x51_3 : Int) (x151000_3 : Int) (x151001_3 : Int) (x151002_3 : Int) (x152000_3 : Int) (x152001_3 : Int) (x152002_3 : Int), v51 = .int .i64 x51_3 ∧ Aside0 (bywashlaw12_WindowPlays.l0 kq l1 (l1.length : Int) x51_3 x151000_3 x151001_3 x151002_3 x152000_3 x152001_3 x152002_3 = some r) ∧ Aside0 (kq ≤ kj10) ∧ Aside0 (w'.heap[gb150]? = some (.cells #[.int .i64 x151000_3, .int .i64 x151001_3, .int .i64 x151002_3] 25 (0, 0))) ∧ Aside0 (w'.heap[gb151]? = some (.cells #[.int .i64 x152000_3, .int .i64 x152001_3, .int .i64 x152002_3] 35 (0, 0))) ∧ Aside0 (Below w.heap.size w w'))
                  case atStart => exact ⟨(0), (t146), (t147), (t148), (a0), (a0), (0), (by first | rfl | (simp; done) | (simp [*]; done)), H', ⟨Nat.le_refl _⟩, ⟨by (with_reducible repeat (first | refine blk_drewN ?_ _ | refine blk_drew ?_ | refine blk_alloc ?_ _)); exact BK150.out⟩, ⟨by (with_reducible repeat (first | refine blk_drewN ?_ _ | refine blk_drew ?_ | refine blk_alloc ?_ _)); exact BK151.out⟩, ⟨by repeat (first | (with_reducible first | exact HB.out | apply below_alloc | apply pw_below_drewN | apply below_drew1 | refine below_set ?_ GE150.out | refine below_set ?_ GE151.out) | exact HB.out)⟩⟩
                  case round =>
                    clear H'
                    try clear c1
                    try clear c2
                    try clear p2
                    try clear c4
                    try clear c4b0
                    try clear c4b1
                    try clear c7
                    try clear c8
                    try clear c9
                    try clear c10
                    try clear c15
                    try clear c15b0
                    try clear c16
                    try clear c17
                    try clear c19
                    try clear c19b0
                    try clear c21
                    try clear c27
                    try clear hcz14_0
                    try clear hcz14_1
                    try clear hcz14_2
                    try clear hcz22_0
                    try clear hcz22_1
                    try clear hcz22_2
                    try clear hcz28_0
                    try clear hcz28_1
                    try clear hcz28_2
                    try clear hfz14_0
                    try clear hfz14_1
                    try clear hfz14_2
                    try clear hfz22_0
                    try clear hfz22_1
                    try clear hfz22_2
                    try clear hfz28_0
                    try clear hfz28_1
                    try clear hfz28_2
                    try clear p2
                    obtain ⟨x51_3, x151000_3, x151001_3, x151002_3, x152000_3, x152001_3, x152002_3, rfl, HA, HK3, BK150, BK151, HB⟩ := hrel
                    cases gk with
                    | zero => exact absurd HA.out (by simp [bywashlaw12_WindowPlays.l0])
                    | succ k3 =>
                      have H := HA.out
                      clear HA
                      simp only [bywashlaw12_WindowPlays.l0] at H
                      by_cases c32 : x51_3 < (l1.length : Int)
                      · rw [if_pos c32] at H
                        have c32b0 : decide (x51_3 < (l1.length : Int)) = true := decide_eq_true c32
                        clear c32
                        by_cases c33 : 0 ≤ x51_3
                        · rw [if_pos c33] at H
                          have c33b0 : decide (0 ≤ x51_3) = true := decide_eq_true c33
                          clear c33
                          by_cases c34 : x51_3 < (l1.length : Int)
                          · rw [if_pos c34] at H
                            have c34b0 : decide (x51_3 < (l1.length : Int)) = true := decide_eq_true c34
                            clear c34
                            have HC35 := Aside0.mk H
                            clear H
                            have p155 : 0 ≤ (x51_3 : Int) := of_decide_eq_true (by first | (with_reducible assumption) | assumption)
                            have q155 : x51_3 < (l1.length : Int) := of_decide_eq_true (by first | (with_reducible assumption) | assumption)
                            obtain ⟨ad155, e155, hx155_0, hx155_1⟩ := at_T38 HR1.out x51_3 p155 q155
                            cases e155
                            replace hx155_0 := (HB.out.cell (World.block_lt_of_cell? w _ hx155_0)).trans hx155_0
                            replace hx155_1 := (HB.out.cell (World.block_lt_of_cell? w _ hx155_1)).trans hx155_1
                            replace p155 := eq_true p155
                            replace q155 := eq_true q155
                            go_upto_region 14 with (first | ((with_reducible refine gate_dst (N := 9) rfl ?_); refine box_event ?hg (N := 9) ?hd (cs := #[.int .i64 0, .int .i64 0]) (t := 38) ?hr ?_; (case hd => rfl); (case hg => rfl); (case hr => first | (go_simp; done) | (go_simp; rfl)); intro gb156 hg w36 hbox hb; have n0_ := Aside0.mk (blk_below (g := gb150) (o := .cells #[.int .i64 x151000_3, .int .i64 x151001_3, .int .i64 x151002_3] 25 (0, 0)) (by (with_reducible repeat (first | refine blk_drewN ?_ _ | refine blk_drew ?_ | refine blk_alloc ?_ _)); exact BK150.out) hb); have n1_ := Aside0.mk (blk_below (g := gb151) (o := .cells #[.int .i64 x152000_3, .int .i64 x152001_3, .int .i64 x152002_3] 35 (0, 0)) (by (with_reducible repeat (first | refine blk_drewN ?_ _ | refine blk_drew ?_ | refine blk_alloc ?_ _)); exact BK151.out) hb); have n2_ := Aside0.mk (below_step (by repeat (first | (with_reducible first | exact HB.out | apply below_alloc | apply pw_below_drewN | apply below_drew1 | refine below_set ?_ GE150.out | refine below_set ?_ GE151.out) | exact HB.out)) hb); have n3_ := Aside0.mk (hbox); have n4_ := Aside0.mk ((by rw [hg]; exact (below_size (by repeat (first | (with_reducible first | exact HB.out | apply below_alloc | apply pw_below_drewN | apply below_drew1 | refine below_set ?_ GE150.out | refine below_set ?_ GE151.out) | exact HB.out))) : w.heap.size ≤ gb156)); have n5_ := Aside0.mk ((by rw [hg]; exact (below_size (by repeat (first | (with_reducible first | exact HB.out | apply below_alloc | apply pw_below_drewN | apply below_drew1 | refine below_set ?_ GE150.out | refine below_set ?_ GE151.out) | exact HB.out))) : w.heap.size ≤ gb156)); have n6_ := Aside0.mk ((by rw [hg]; exact Nat.ne_of_lt (blk_lt (g := gb150) (o := .cells #[.int .i64 x151000_3, .int .i64 x151001_3, .int .i64 x151002_3] 25 (0, 0)) (by (with_reducible repeat (first | refine blk_drewN ?_ _ | refine blk_drew ?_ | refine blk_alloc ?_ _)); exact BK150.out)) : gb150 ≠ gb156)); have n7_ := Aside0.mk ((by rw [hg]; exact Nat.ne_of_gt (blk_lt (g := gb150) (o := .cells #[.int .i64 x151000_3, .int .i64 x151001_3, .int .i64 x151002_3] 25 (0, 0)) (by (with_reducible repeat (first | refine blk_drewN ?_ _ | refine blk_drew ?_ | refine blk_alloc ?_ _)); exact BK150.out)) : gb156 ≠ gb150)); have n8_ := Aside0.mk ((by rw [hg]; exact Nat.ne_of_lt (blk_lt (g := gb151) (o := .cells #[.int .i64 x152000_3, .int .i64 x152001_3, .int .i64 x152002_3] 35 (0, 0)) (by (with_reducible repeat (first | refine blk_drewN ?_ _ | refine blk_drew ?_ | refine blk_alloc ?_ _)); exact BK151.out)) : gb151 ≠ gb156)); have n9_ := Aside0.mk ((by rw [hg]; exact Nat.ne_of_gt (blk_lt (g := gb151) (o := .cells #[.int .i64 x152000_3, .int .i64 x152001_3, .int .i64 x152002_3] 35 (0, 0)) (by (with_reducible repeat (first | refine blk_drewN ?_ _ | refine blk_drew ?_ | refine blk_alloc ?_ _)); exact BK151.out)) : gb156 ≠ gb151)); clear BK150; clear BK151; clear HB; have BK150 := n0_; have BK151 := n1_; have HB := n2_; have BK156 := n3_; have GW156 := n4_; have GE156 := n5_; have NB150_156 := n6_; have NB156_150 := n7_; have NB151_156 := n8_; have NB156_151 := n9_; clear n0_ n1_ n2_ n3_ n4_ n5_ n6_ n7_ n8_ n9_; clear hb hbox hg; have hnb37 := NB156_150.out; have hnc37 := NB150_156.out; have hnb38 := NB156_151.out; have hnc38 := NB151_156.out; have hcz39_0 : w36.cell? ⟨gb156, 0, none⟩ = some (.int .i64 0) := (blk_cell BK156.out 0).trans rfl; have hcz39_1 : w36.cell? ⟨gb156, 1, none⟩ = some (.int .i64 0) := (blk_cell BK156.out 1).trans rfl; have hfz39_0 := blk_frozen BK156.out 0; have hfz39_1 := blk_frozen BK156.out 1))
                            (try simp only [Act.put, List.setIfInBounds_toArray, List.set_cons_zero, List.set_cons_succ])
                            go_cut [62] (fun v62 wc => ∃ (kq : Nat) (x62_34 : Bool), v62 = .bool x62_34 ∧ Aside0 (bywashlaw12_WindowPlays.j3 kq l1 (l1.length : Int) x51_3 x62_34 x151000_3 x151001_3 x151002_3 x152000_3 x152001_3 x152002_3 ((rd_T38 l1 x51_3).f0) ((rd_T38 l1 x51_3).f1) = some r) ∧ Aside0 (kq ≤ k3) ∧ Aside0 (wc.heap[gb150]? = some (.cells #[.int .i64 x151000_3, .int .i64 x151001_3, .int .i64 x151002_3] 25 (0, 0))) ∧ Aside0 (wc.heap[gb151]? = some (.cells #[.int .i64 x152000_3, .int .i64 x152001_3, .int .i64 x152002_3] 35 (0, 0))) ∧ Aside0 (wc.heap[gb156]? = some (.cells #[.int .i64 ((rd_T38 l1 x51_3).f0), .int .i64 ((rd_T38 l1 x51_3).f1)] 38 (0, 0))) ∧ Aside0 (Below w.heap.size w wc))
                            case first =>
                              have H := HC35.out
                              clear HC35
                              by_cases c40 : ((rd_T38 l1 x51_3).f1) > 1099511627776
                              · rw [if_pos c40] at H
                                have c40b0 : decide (1099511627776 < ((rd_T38 l1 x51_3).f1)) = true := decide_eq_true c40
                                clear c40
                                (first | rw [c40b0] | (simp only [i64_w, i32_w]; rw [c40b0]) | skip)
                                have H' := Aside0.mk H
                                clear H
                                have hnb41 := NB156_150.out
                                have hnc41 := NB150_156.out
                                have hnb42 := NB156_151.out
                                have hnc42 := NB151_156.out
                                have hcz43_0 : w36.cell? ⟨gb156, 0, none⟩ = some (.int .i64 0) := (blk_cell BK156.out 0).trans rfl
                                have hcz43_1 : w36.cell? ⟨gb156, 1, none⟩ = some (.int .i64 0) := (blk_cell BK156.out 1).trans rfl
                                have hfz43_0 := blk_frozen BK156.out 0
                                have hfz43_1 := blk_frozen BK156.out 1
                                go_wp2
                                go_meet
                                case rel => exact ⟨_, (true), (by first | rfl | (simp; done) | (simp [*]; done)), H', ⟨by have := HJ2.out; have := HJ10.out; have := HK3.out; first | omega | exact Nat.le_refl _⟩, ⟨by (with_reducible repeat (first | refine blk_drewN ?_ _ | refine blk_drew ?_ | refine blk_alloc ?_ _)); refine blk_far ?_ NB150_156.out _; (with_reducible repeat (first | refine blk_drewN ?_ _ | refine blk_drew ?_ | refine blk_alloc ?_ _)); refine blk_far ?_ NB150_156.out _; (with_reducible repeat (first | refine blk_drewN ?_ _ | refine blk_drew ?_ | refine blk_alloc ?_ _)); exact BK150.out⟩, ⟨by (with_reducible repeat (first | refine blk_drewN ?_ _ | refine blk_drew ?_ | refine blk_alloc ?_ _)); refine blk_far ?_ NB151_156.out _; (with_reducible repeat (first | refine blk_drewN ?_ _ | refine blk_drew ?_ | refine blk_alloc ?_ _)); refine blk_far ?_ NB151_156.out _; (with_reducible repeat (first | refine blk_drewN ?_ _ | refine blk_drew ?_ | refine blk_alloc ?_ _)); exact BK151.out⟩, ⟨by (with_reducible repeat (first | refine blk_drewN ?_ _ | refine blk_drew ?_ | refine blk_alloc ?_ _)); refine blk_put (cs := #[.int .i64 ((rd_T38 l1 x51_3).f0), .int .i64 0]) ?_ 1 _ rfl; (with_reducible repeat (first | refine blk_drewN ?_ _ | refine blk_drew ?_ | refine blk_alloc ?_ _)); refine blk_put (cs := #[.int .i64 0, .int .i64 0]) ?_ 0 _ rfl; (with_reducible repeat (first | refine blk_drewN ?_ _ | refine blk_drew ?_ | refine blk_alloc ?_ _)); exact BK156.out⟩, ⟨by repeat (first | (with_reducible first | exact HB.out | apply below_alloc | apply pw_below_drewN | apply below_drew1 | refine below_set ?_ GE150.out | refine below_set ?_ GE151.out | refine below_set ?_ GE156.out) | exact HB.out)⟩⟩
                              · rw [if_neg c40] at H
                                have c40b0 : decide (1099511627776 < ((rd_T38 l1 x51_3).f1)) = false := decide_eq_false c40
                                clear c40
                                (first | rw [c40b0] | (simp only [i64_w, i32_w]; rw [c40b0]) | skip)
                                have H' := Aside0.mk H
                                clear H
                                have hnb44 := NB156_150.out
                                have hnc44 := NB150_156.out
                                have hnb45 := NB156_151.out
                                have hnc45 := NB151_156.out
                                have hcz46_0 : w36.cell? ⟨gb156, 0, none⟩ = some (.int .i64 0) := (blk_cell BK156.out 0).trans rfl
                                have hcz46_1 : w36.cell? ⟨gb156, 1, none⟩ = some (.int .i64 0) := (blk_cell BK156.out 1).trans rfl
                                have hfz46_0 := blk_frozen BK156.out 0
                                have hfz46_1 := blk_frozen BK156.out 1
                                go_wp2
                                go_meet
                                case rel => exact ⟨_, (decide (((rd_T38 l1 x51_3).f1) < (-1099511627776))), (by first | rfl | (simp; done) | (simp [*]; done)), H', ⟨by have := HJ2.out; have := HJ10.out; have := HK3.out; first | omega | exact Nat.le_refl _⟩, ⟨by (with_reducible repeat (first | refine blk_drewN ?_ _ | refine blk_drew ?_ | refine blk_alloc ?_ _)); refine blk_far ?_ NB150_156.out _; (with_reducible repeat (first | refine blk_drewN ?_ _ | refine blk_drew ?_ | refine blk_alloc ?_ _)); refine blk_far ?_ NB150_156.out _; (with_reducible repeat (first | refine blk_drewN ?_ _ | refine blk_drew ?_ | refine blk_alloc ?_ _)); exact BK150.out⟩, ⟨by (with_reducible repeat (first | refine blk_drewN ?_ _ | refine blk_drew ?_ | refine blk_alloc ?_ _)); refine blk_far ?_ NB151_156.out _; (with_reducible repeat (first | refine blk_drewN ?_ _ | refine blk_drew ?_ | refine blk_alloc ?_ _)); refine blk_far ?_ NB151_156.out _; (with_reducible repeat (first | refine blk_drewN ?_ _ | refine blk_drew ?_ | refine blk_alloc ?_ _)); exact BK151.out⟩, ⟨by (with_reducible repeat (first | refine blk_drewN ?_ _ | refine blk_drew ?_ | refine blk_alloc ?_ _)); refine blk_put (cs := #[.int .i64 ((rd_T38 l1 x51_3).f0), .int .i64 0]) ?_ 1 _ rfl; (with_reducible repeat (first | refine blk_drewN ?_ _ | refine blk_drew ?_ | refine blk_alloc ?_ _)); refine blk_put (cs := #[.int .i64 0, .int .i64 0]) ?_ 0 _ rfl; (with_reducible repeat (first | refine blk_drewN ?_ _ | refine blk_drew ?_ | refine blk_alloc ?_ _)); exact BK156.out⟩, ⟨by repeat (first | (with_reducible first | exact HB.out | apply below_alloc | apply pw_below_drewN | apply below_drew1 | refine below_set ?_ GE150.out | refine below_set ?_ GE151.out | refine below_set ?_ GE156.out) | exact HB.out)⟩⟩
                            case rest =>
                              clear HC35
                              try clear c1
                              try clear p1
                              try clear q1
                              try clear hx1
                              try clear c2
                              try clear p2
                              try clear c3
                              try clear c4
                              try clear c4b0
                              try clear c4b1
                              try clear c7
                              try clear c8
                              try clear c9
                              try clear c10
                              try clear c15
                              try clear c15b0
                              try clear p15
                              try clear q15
                              try clear hx15
                              try clear c16
                              try clear c17
                              try clear c19
                              try clear c19b0
                              try clear c21
                              try clear c27
                              try clear c32
                              try clear c32b0
                              try clear c33
                              try clear c33b0
                              try clear c34
                              try clear c34b0
                              try clear c37
                              try clear c38
                              try clear c40
                              try clear c40b0
                              try clear c41
                              try clear c42
                              try clear c44
                              try clear c45
                              try clear hcz14_0
                              try clear hcz14_1
                              try clear hcz14_2
                              try clear hcz22_0
                              try clear hcz22_1
                              try clear hcz22_2
                              try clear hcz28_0
                              try clear hcz28_1
                              try clear hcz28_2
                              try clear hcz39_0
                              try clear hcz39_1
                              try clear hcz43_0
                              try clear hcz43_1
                              try clear hcz46_0
                              try clear hcz46_1
                              try clear hfz14_0
                              try clear hfz14_1
                              try clear hfz14_2
                              try clear hfz22_0
                              try clear hfz22_1
                              try clear hfz22_2
                              try clear hfz28_0
                              try clear hfz28_1
                              try clear hfz28_2
                              try clear hfz39_0
                              try clear hfz39_1
                              try clear hfz43_0
                              try clear hfz43_1
                              try clear hfz46_0
                              try clear hfz46_1
                              try clear hx155_0
                              try clear hx155_1
                              try clear p155
                              try clear p2
                              try clear q155
                              obtain ⟨kq, x62_34, rfl, HA, HJ34, BK150, BK151, BK156, HB⟩ := hcut
                              cases kq with
                              | zero => exact absurd HA.out (by simp [bywashlaw12_WindowPlays.j3])
                              | succ kj34 =>
                                have H := HA.out
                                clear HA
                                simp only [bywashlaw12_WindowPlays.j3] at H
                                by_cases c47 : x62_34 = true
                                · subst c47
                                  have H1 : (some true) = some r := by rw [if_pos rfl] at H; exact H
                                  clear H
                                  have H := H1
                                  clear H1
                                  obtain rfl := Option.some.inj H
                                  go_wp2
                                  go_ret
                                  exact ⟨by first | rfl | (simp [errW_none, errW_some] <;> rfl) | (simp [*, errW_none, errW_some] <;> rfl), by repeat (first | (with_reducible first | exact HB.out | apply below_alloc | apply pw_below_drewN | apply below_drew1 | refine below_set ?_ GE150.out | refine below_set ?_ GE151.out | refine below_set ?_ GE156.out) | exact HB.out)⟩
                                · replace c47 := Bool.eq_false_iff.mpr c47
                                  subst c47
                                  have H1 : (if ((rd_T38 l1 x51_3).f0) = 1 then ((window_Take.f x151000_3 x151001_3 x151002_3 ((rd_T38 l1 x51_3).f1)).bind fun bt159 => ((bywashref1_Take.f x152000_3 x152001_3 x152002_3 ((rd_T38 l1 x51_3).f1)).bind fun bt163 => (bywashlaw12_WindowPlays.j4 kj34 bt159.2.2.2 bt163.2.2.2 0 0 l1 (l1.length : Int) x51_3 bt159.1 bt159.2.1 bt159.2.2.1 bt163.1 bt163.2.1 bt163.2.2.1))) else (if ((rd_T38 l1 x51_3).f0) = 2 then ((window_Grow.f x151000_3 x151001_3 x151002_3 ((rd_T38 l1 x51_3).f1)).bind fun bt167 => ((bywashref1_Grow.f x152000_3 x152001_3 x152002_3 ((rd_T38 l1 x51_3).f1)).bind fun bt171 => (bywashlaw12_WindowPlays.j4 kj34 bt167.2.2.2 bt171.2.2.2 0 0 l1 (l1.length : Int) x51_3 bt167.1 bt167.2.1 bt167.2.2.1 bt171.1 bt171.2.1 bt171.2.2.1))) else (if ((rd_T38 l1 x51_3).f0) = 3 then ((window_Shift.f x151000_3 x151001_3 x151002_3 ((rd_T38 l1 x51_3).f1)).bind fun bt175 => ((bywashref1_Shift.f x152000_3 x152001_3 x152002_3 ((rd_T38 l1 x51_3).f1)).bind fun bt179 => (bywashlaw12_WindowPlays.j4 kj34 bt175.2.2.2 bt179.2.2.2 0 0 l1 (l1.length : Int) x51_3 bt175.1 bt175.2.1 bt175.2.2.1 bt179.1 bt179.2.1 bt179.2.2.1))) else (if ((rd_T38 l1 x51_3).f0) = 4 then ((window_Spend.f x151000_3 x151001_3 x151002_3 ((rd_T38 l1 x51_3).f1)).bind fun bt183 => ((bywashref1_Take.f x152000_3 x152001_3 x152002_3 ((rd_T38 l1 x51_3).f1)).bind fun bt187 => (bywashlaw12_WindowPlays.j4 kj34 bt183.2.2.2 bt187.2.2.2 0 0 l1 (l1.length : Int) x51_3 bt183.1 bt183.2.1 bt183.2.2.1 bt187.1 bt187.2.1 bt187.2.2.1))) else (if ((rd_T38 l1 x51_3).f0) = 5 then ((window_Credit.f x151000_3 x151001_3 x151002_3 ((rd_T38 l1 x51_3).f1)).bind fun bt191 => ((bywashref1_Credit.f x152000_3 x152001_3 x152002_3 ((rd_T38 l1 x51_3).f1)).bind fun bt195 => (bywashlaw12_WindowPlays.j4 kj34 true true bt191.2.2.2 bt195.2.2.2 l1 (l1.length : Int) x51_3 bt191.1 bt191.2.1 bt191.2.2.1 bt195.1 bt195.2.1 bt195.2.2.1))) else (bywashlaw12_WindowPlays.l0 kj34 l1 (l1.length : Int) (wrap64 (x51_3 + 1)) x151000_3 x151001_3 x151002_3 x152000_3 x152001_3 x152002_3)))))) = some r := by rw [if_neg (show ¬ (false = true) by decide)] at H; exact H
                                  clear H
                                  have H := H1
                                  clear H1
                                  have HC48 := Aside0.mk H
                                  clear H
                                  go_upto_block 2 with (first | ((with_reducible refine gate_dst (N := 10) rfl ?_); refine box_event ?hg (N := 10) ?hd (cs := #[.int .i64 0, .int .i64 0, .int .i64 0]) (t := 25) ?hr ?_; (case hd => rfl); (case hg => rfl); (case hr => first | (go_simp; done) | (go_simp; rfl)); intro gb157 hg w49 hbox hb; have n0_ := Aside0.mk (blk_below (g := gb150) (o := .cells #[.int .i64 x151000_3, .int .i64 x151001_3, .int .i64 x151002_3] 25 (0, 0)) (by (with_reducible repeat (first | refine blk_drewN ?_ _ | refine blk_drew ?_ | refine blk_alloc ?_ _)); exact BK150.out) hb); have n1_ := Aside0.mk (blk_below (g := gb151) (o := .cells #[.int .i64 x152000_3, .int .i64 x152001_3, .int .i64 x152002_3] 35 (0, 0)) (by (with_reducible repeat (first | refine blk_drewN ?_ _ | refine blk_drew ?_ | refine blk_alloc ?_ _)); exact BK151.out) hb); have n2_ := Aside0.mk (blk_below (g := gb156) (o := .cells #[.int .i64 ((rd_T38 l1 x51_3).f0), .int .i64 ((rd_T38 l1 x51_3).f1)] 38 (0, 0)) (by (with_reducible repeat (first | refine blk_drewN ?_ _ | refine blk_drew ?_ | refine blk_alloc ?_ _)); exact BK156.out) hb); have n3_ := Aside0.mk (below_step (by repeat (first | (with_reducible first | exact HB.out | apply below_alloc | apply pw_below_drewN | apply below_drew1 | refine below_set ?_ GE150.out | refine below_set ?_ GE151.out | refine below_set ?_ GE156.out) | exact HB.out)) hb); have n4_ := Aside0.mk (hbox); have n5_ := Aside0.mk ((by rw [hg]; exact (below_size (by repeat (first | (with_reducible first | exact HB.out | apply below_alloc | apply pw_below_drewN | apply below_drew1 | refine below_set ?_ GE150.out | refine below_set ?_ GE151.out | refine below_set ?_ GE156.out) | exact HB.out))) : w.heap.size ≤ gb157)); have n6_ := Aside0.mk ((by rw [hg]; exact (below_size (by repeat (first | (with_reducible first | exact HB.out | apply below_alloc | apply pw_below_drewN | apply below_drew1 | refine below_set ?_ GE150.out | refine below_set ?_ GE151.out | refine below_set ?_ GE156.out) | exact HB.out))) : w.heap.size ≤ gb157)); have n7_ := Aside0.mk ((by rw [hg]; exact Nat.ne_of_lt (blk_lt (g := gb150) (o := .cells #[.int .i64 x151000_3, .int .i64 x151001_3, .int .i64 x151002_3] 25 (0, 0)) (by (with_reducible repeat (first | refine blk_drewN ?_ _ | refine blk_drew ?_ | refine blk_alloc ?_ _)); exact BK150.out)) : gb150 ≠ gb157)); have n8_ := Aside0.mk ((by rw [hg]; exact Nat.ne_of_gt (blk_lt (g := gb150) (o := .cells #[.int .i64 x151000_3, .int .i64 x151001_3, .int .i64 x151002_3] 25 (0, 0)) (by (with_reducible repeat (first | refine blk_drewN ?_ _ | refine blk_drew ?_ | refine blk_alloc ?_ _)); exact BK150.out)) : gb157 ≠ gb150)); have n9_ := Aside0.mk ((by rw [hg]; exact Nat.ne_of_lt (blk_lt (g := gb151) (o := .cells #[.int .i64 x152000_3, .int .i64 x152001_3, .int .i64 x152002_3] 35 (0, 0)) (by (with_reducible repeat (first | refine blk_drewN ?_ _ | refine blk_drew ?_ | refine blk_alloc ?_ _)); exact BK151.out)) : gb151 ≠ gb157)); have n10_ := Aside0.mk ((by rw [hg]; exact Nat.ne_of_gt (blk_lt (g := gb151) (o := .cells #[.int .i64 x152000_3, .int .i64 x152001_3, .int .i64 x152002_3] 35 (0, 0)) (by (with_reducible repeat (first | refine blk_drewN ?_ _ | refine blk_drew ?_ | refine blk_alloc ?_ _)); exact BK151.out)) : gb157 ≠ gb151)); have n11_ := Aside0.mk ((by rw [hg]; exact Nat.ne_of_lt (blk_lt (g := gb156) (o := .cells #[.int .i64 ((rd_T38 l1 x51_3).f0), .int .i64 ((rd_T38 l1 x51_3).f1)] 38 (0, 0)) (by (with_reducible repeat (first | refine blk_drewN ?_ _ | refine blk_drew ?_ | refine blk_alloc ?_ _)); exact BK156.out)) : gb156 ≠ gb157)); have n12_ := Aside0.mk ((by rw [hg]; exact Nat.ne_of_gt (blk_lt (g := gb156) (o := .cells #[.int .i64 ((rd_T38 l1 x51_3).f0), .int .i64 ((rd_T38 l1 x51_3).f1)] 38 (0, 0)) (by (with_reducible repeat (first | refine blk_drewN ?_ _ | refine blk_drew ?_ | refine blk_alloc ?_ _)); exact BK156.out)) : gb157 ≠ gb156)); clear BK150; clear BK151; clear BK156; clear HB; have BK150 := n0_; have BK151 := n1_; have BK156 := n2_; have HB := n3_; have BK157 := n4_; have GW157 := n5_; have GE157 := n6_; have NB150_157 := n7_; have NB157_150 := n8_; have NB151_157 := n9_; have NB157_151 := n10_; have NB156_157 := n11_; have NB157_156 := n12_; clear n0_ n1_ n2_ n3_ n4_ n5_ n6_ n7_ n8_ n9_ n10_ n11_ n12_; clear hb hbox hg) | ((with_reducible refine gate_dst (N := 11) rfl ?_); refine box_event ?hg (N := 11) ?hd (cs := #[.int .i64 0, .int .i64 0, .int .i64 0]) (t := 35) ?hr ?_; (case hd => rfl); (case hg => rfl); (case hr => first | (go_simp; done) | (go_simp; rfl)); intro gb158 hg w50 hbox hb; have n0_ := Aside0.mk (blk_below (g := gb150) (o := .cells #[.int .i64 x151000_3, .int .i64 x151001_3, .int .i64 x151002_3] 25 (0, 0)) (by (with_reducible repeat (first | refine blk_drewN ?_ _ | refine blk_drew ?_ | refine blk_alloc ?_ _)); exact BK150.out) hb); have n1_ := Aside0.mk (blk_below (g := gb151) (o := .cells #[.int .i64 x152000_3, .int .i64 x152001_3, .int .i64 x152002_3] 35 (0, 0)) (by (with_reducible repeat (first | refine blk_drewN ?_ _ | refine blk_drew ?_ | refine blk_alloc ?_ _)); exact BK151.out) hb); have n2_ := Aside0.mk (blk_below (g := gb156) (o := .cells #[.int .i64 ((rd_T38 l1 x51_3).f0), .int .i64 ((rd_T38 l1 x51_3).f1)] 38 (0, 0)) (by (with_reducible repeat (first | refine blk_drewN ?_ _ | refine blk_drew ?_ | refine blk_alloc ?_ _)); exact BK156.out) hb); have n3_ := Aside0.mk (blk_below (g := gb157) (o := .cells #[.int .i64 0, .int .i64 0, .int .i64 0] 25 (0, 0)) (by (with_reducible repeat (first | refine blk_drewN ?_ _ | refine blk_drew ?_ | refine blk_alloc ?_ _)); exact BK157.out) hb); have n4_ := Aside0.mk (below_step (by repeat (first | (with_reducible first | exact HB.out | apply below_alloc | apply pw_below_drewN | apply below_drew1 | refine below_set ?_ GE150.out | refine below_set ?_ GE151.out | refine below_set ?_ GE156.out | refine below_set ?_ GE157.out) | exact HB.out)) hb); have n5_ := Aside0.mk (hbox); have n6_ := Aside0.mk ((by rw [hg]; exact (below_size (by repeat (first | (with_reducible first | exact HB.out | apply below_alloc | apply pw_below_drewN | apply below_drew1 | refine below_set ?_ GE150.out | refine below_set ?_ GE151.out | refine below_set ?_ GE156.out | refine below_set ?_ GE157.out) | exact HB.out))) : w.heap.size ≤ gb158)); have n7_ := Aside0.mk ((by rw [hg]; exact (below_size (by repeat (first | (with_reducible first | exact HB.out | apply below_alloc | apply pw_below_drewN | apply below_drew1 | refine below_set ?_ GE150.out | refine below_set ?_ GE151.out | refine below_set ?_ GE156.out | refine below_set ?_ GE157.out) | exact HB.out))) : w.heap.size ≤ gb158)); have n8_ := Aside0.mk ((by rw [hg]; exact Nat.ne_of_lt (blk_lt (g := gb150) (o := .cells #[.int .i64 x151000_3, .int .i64 x151001_3, .int .i64 x151002_3] 25 (0, 0)) (by (with_reducible repeat (first | refine blk_drewN ?_ _ | refine blk_drew ?_ | refine blk_alloc ?_ _)); exact BK150.out)) : gb150 ≠ gb158)); have n9_ := Aside0.mk ((by rw [hg]; exact Nat.ne_of_gt (blk_lt (g := gb150) (o := .cells #[.int .i64 x151000_3, .int .i64 x151001_3, .int .i64 x151002_3] 25 (0, 0)) (by (with_reducible repeat (first | refine blk_drewN ?_ _ | refine blk_drew ?_ | refine blk_alloc ?_ _)); exact BK150.out)) : gb158 ≠ gb150)); have n10_ := Aside0.mk ((by rw [hg]; exact Nat.ne_of_lt (blk_lt (g := gb151) (o := .cells #[.int .i64 x152000_3, .int .i64 x152001_3, .int .i64 x152002_3] 35 (0, 0)) (by (with_reducible repeat (first | refine blk_drewN ?_ _ | refine blk_drew ?_ | refine blk_alloc ?_ _)); exact BK151.out)) : gb151 ≠ gb158)); have n11_ := Aside0.mk ((by rw [hg]; exact Nat.ne_of_gt (blk_lt (g := gb151) (o := .cells #[.int .i64 x152000_3, .int .i64 x152001_3, .int .i64 x152002_3] 35 (0, 0)) (by (with_reducible repeat (first | refine blk_drewN ?_ _ | refine blk_drew ?_ | refine blk_alloc ?_ _)); exact BK151.out)) : gb158 ≠ gb151)); have n12_ := Aside0.mk ((by rw [hg]; exact Nat.ne_of_lt (blk_lt (g := gb156) (o := .cells #[.int .i64 ((rd_T38 l1 x51_3).f0), .int .i64 ((rd_T38 l1 x51_3).f1)] 38 (0, 0)) (by (with_reducible repeat (first | refine blk_drewN ?_ _ | refine blk_drew ?_ | refine blk_alloc ?_ _)); exact BK156.out)) : gb156 ≠ gb158)); have n13_ := Aside0.mk ((by rw [hg]; exact Nat.ne_of_gt (blk_lt (g := gb156) (o := .cells #[.int .i64 ((rd_T38 l1 x51_3).f0), .int .i64 ((rd_T38 l1 x51_3).f1)] 38 (0, 0)) (by (with_reducible repeat (first | refine blk_drewN ?_ _ | refine blk_drew ?_ | refine blk_alloc ?_ _)); exact BK156.out)) : gb158 ≠ gb156)); have n14_ := Aside0.mk ((by rw [hg]; exact Nat.ne_of_lt (blk_lt (g := gb157) (o := .cells #[.int .i64 0, .int .i64 0, .int .i64 0] 25 (0, 0)) (by (with_reducible repeat (first | refine blk_drewN ?_ _ | refine blk_drew ?_ | refine blk_alloc ?_ _)); exact BK157.out)) : gb157 ≠ gb158)); have n15_ := Aside0.mk ((by rw [hg]; exact Nat.ne_of_gt (blk_lt (g := gb157) (o := .cells #[.int .i64 0, .int .i64 0, .int .i64 0] 25 (0, 0)) (by (with_reducible repeat (first | refine blk_drewN ?_ _ | refine blk_drew ?_ | refine blk_alloc ?_ _)); exact BK157.out)) : gb158 ≠ gb157)); clear BK150; clear BK151; clear BK156; clear BK157; clear HB; have BK150 := n0_; have BK151 := n1_; have BK156 := n2_; have BK157 := n3_; have HB := n4_; have BK158 := n5_; have GW158 := n6_; have GE158 := n7_; have NB150_158 := n8_; have NB158_150 := n9_; have NB151_158 := n10_; have NB158_151 := n11_; have NB156_158 := n12_; have NB158_156 := n13_; have NB157_158 := n14_; have NB158_157 := n15_; clear n0_ n1_ n2_ n3_ n4_ n5_ n6_ n7_ n8_ n9_ n10_ n11_ n12_ n13_ n14_ n15_; clear hb hbox hg; have hnb51 := NB156_150.out; have hnc51 := NB150_156.out; have hnb52 := NB156_151.out; have hnc52 := NB151_156.out; have hnb53 := NB156_157.out; have hnc53 := NB157_156.out; have hnb54 := NB156_158.out; have hnc54 := NB158_156.out; have hcz55_0 : w50.cell? ⟨gb156, 0, none⟩ = some (.int .i64 ((rd_T38 l1 x51_3).f0)) := (blk_cell BK156.out 0).trans rfl; have hcz55_1 : w50.cell? ⟨gb156, 1, none⟩ = some (.int .i64 ((rd_T38 l1 x51_3).f1)) := (blk_cell BK156.out 1).trans rfl; have hfz55_0 := blk_frozen BK156.out 0; have hfz55_1 := blk_frozen BK156.out 1))
                                  (try simp only [Act.put, List.setIfInBounds_toArray, List.set_cons_zero, List.set_cons_succ])
                                  go_cut [12, 13, 14, 15] (fun v12 v13 v14 v15 wc => ∃ (kq : Nat) (x12_47 : Bool) (x13_47 : Bool) (x14_47 : Int) (x15_47 : Int) (x158000_47 : Int) (x158001_47 : Int) (x158002_47 : Int) (x159000_47 : Int) (x159001_47 : Int) (x159002_47 : Int), v12 = .bool x12_47 ∧ v13 = .bool x13_47 ∧ v14 = .int .i64 x14_47 ∧ v15 = .int .i64 x15_47 ∧ Aside0 (bywashlaw12_WindowPlays.j4 kq x12_47 x13_47 x14_47 x15_47 l1 (l1.length : Int) x51_3 x158000_47 x158001_47 x158002_47 x159000_47 x159001_47 x159002_47 = some r) ∧ Aside0 (kq ≤ kj34) ∧ Aside0 (wc.heap[gb150]? = some (.cells #[.int .i64 x151000_3, .int .i64 x151001_3, .int .i64 x151002_3] 25 (0, 0))) ∧ Aside0 (wc.heap[gb151]? = some (.cells #[.int .i64 x152000_3, .int .i64 x152001_3, .int .i64 x152002_3] 35 (0, 0))) ∧ Aside0 (wc.heap[gb156]? = some (.cells #[.int .i64 ((rd_T38 l1 x51_3).f0), .int .i64 ((rd_T38 l1 x51_3).f1)] 38 (0, 0))) ∧ Aside0 (wc.heap[gb157]? = some (.cells #[.int .i64 x158000_47, .int .i64 x158001_47, .int .i64 x158002_47] 25 (0, 0))) ∧ Aside0 (wc.heap[gb158]? = some (.cells #[.int .i64 x159000_47, .int .i64 x159001_47, .int .i64 x159002_47] 35 (0, 0))) ∧ Aside0 (Below w.heap.size w wc))
                                  case first =>
                                    have H := HC48.out
                                    clear HC48
                                    by_cases c56 : ((rd_T38 l1 x51_3).f0) = 1
                                    · rw [if_pos c56] at H
                                      have c56b0 : (((rd_T38 l1 x51_3).f0) == 1) = true := beq_iff_eq.mpr c56
                                      have c56b1 : (((rd_T38 l1 x51_3).f0) != 1) = false := bne_eq_false_iff_eq.mpr c56
                                      clear c56
                                      (first | rw [c56b0] | (simp only [i64_w, i32_w]; rw [c56b0]) | skip)
                                      replace H := Option.bind_eq_some_iff.mp H
                                      obtain ⟨⟨t159, t160, t161, t162⟩, A570, H⟩ := H
                                      replace H : ((bywashref1_Take.f x152000_3 x152001_3 x152002_3 ((rd_T38 l1 x51_3).f1)).bind fun bt163 => (bywashlaw12_WindowPlays.j4 kj34 t162 bt163.2.2.2 0 0 l1 (l1.length : Int) x51_3 t159 t160 t161 bt163.1 bt163.2.1 bt163.2.2.1)) = some r := H
                                      have A57 := Aside0.mk A570
                                      clear A570
                                      replace H := Option.bind_eq_some_iff.mp H
                                      obtain ⟨⟨t163, t164, t165, t166⟩, A580, H⟩ := H
                                      replace H : (bywashlaw12_WindowPlays.j4 kj34 t162 t166 0 0 l1 (l1.length : Int) x51_3 t159 t160 t161 t163 t164 t165) = some r := H
                                      have A58 := Aside0.mk A580
                                      clear A580
                                      have H' := Aside0.mk H
                                      clear H
                                      have hnb59 := NB150_151.out
                                      have hnc59 := NB151_150.out
                                      have hnb60 := NB150_156.out
                                      have hnc60 := NB156_150.out
                                      have hnb61 := NB150_157.out
                                      have hnc61 := NB157_150.out
                                      have hnb62 := NB150_158.out
                                      have hnc62 := NB158_150.out
                                      have hcz63_0 : w50.cell? ⟨gb150, 0, none⟩ = some (.int .i64 x151000_3) := (blk_cell BK150.out 0).trans rfl
                                      have hcz63_1 : w50.cell? ⟨gb150, 1, none⟩ = some (.int .i64 x151001_3) := (blk_cell BK150.out 1).trans rfl
                                      have hcz63_2 : w50.cell? ⟨gb150, 2, none⟩ = some (.int .i64 x151002_3) := (blk_cell BK150.out 2).trans rfl
                                      have hfz63_0 := blk_frozen BK150.out 0
                                      have hfz63_1 := blk_frozen BK150.out 1
                                      have hfz63_2 := blk_frozen BK150.out 2
                                      have hnb64 := NB156_151.out
                                      have hnc64 := NB151_156.out
                                      have hnb65 := NB156_157.out
                                      have hnc65 := NB157_156.out
                                      have hnb66 := NB156_158.out
                                      have hnc66 := NB158_156.out
                                      have hcz67_0 : w50.cell? ⟨gb156, 0, none⟩ = some (.int .i64 ((rd_T38 l1 x51_3).f0)) := (blk_cell BK156.out 0).trans rfl
                                      have hcz67_1 : w50.cell? ⟨gb156, 1, none⟩ = some (.int .i64 ((rd_T38 l1 x51_3).f1)) := (blk_cell BK156.out 1).trans rfl
                                      have hfz67_0 := blk_frozen BK156.out 0
                                      have hfz67_1 := blk_frozen BK156.out 1
                                      go_wp2_with (first | ((with_reducible refine gate_callee (f := 13) rfl ?_); refine goesL_ (some 71) rfl rfl Try.func13 (by kernel_rfl) rfl #[.agg #[.int .i64 x151000_3, .int .i64 x151001_3, .int .i64 x151002_3], .int .i64 ((rd_T38 l1 x51_3).f1)] rfl (by (try simp only [List.map_toArray, List.map_cons, List.map_nil]); first | done | rfl | (simp only [List.length_drop, List.length_take]; rfl)) ?_; (with_reducible refine (window_Take.calls x151000_3 x151001_3 x151002_3 ((rd_T38 l1 x51_3).f1) t159 t160 t161 t162 _ A57.out).mono ?_); rintro e w68 ⟨rfl, hb⟩; refine ⟨_, rfl, ?_⟩; have n0_ := Aside0.mk (blk_below (g := gb150) (o := .cells #[.int .i64 x151000_3, .int .i64 x151001_3, .int .i64 x151002_3] 25 (0, 0)) (by (with_reducible repeat (first | refine blk_drewN ?_ _ | refine blk_drew ?_ | refine blk_alloc ?_ _)); exact BK150.out) hb); have n1_ := Aside0.mk (blk_below (g := gb151) (o := .cells #[.int .i64 x152000_3, .int .i64 x152001_3, .int .i64 x152002_3] 35 (0, 0)) (by (with_reducible repeat (first | refine blk_drewN ?_ _ | refine blk_drew ?_ | refine blk_alloc ?_ _)); exact BK151.out) hb); have n2_ := Aside0.mk (blk_below (g := gb156) (o := .cells #[.int .i64 ((rd_T38 l1 x51_3).f0), .int .i64 ((rd_T38 l1 x51_3).f1)] 38 (0, 0)) (by (with_reducible repeat (first | refine blk_drewN ?_ _ | refine blk_drew ?_ | refine blk_alloc ?_ _)); exact BK156.out) hb); have n3_ := Aside0.mk (blk_below (g := gb157) (o := .cells #[.int .i64 0, .int .i64 0, .int .i64 0] 25 (0, 0)) (by (with_reducible repeat (first | refine blk_drewN ?_ _ | refine blk_drew ?_ | refine blk_alloc ?_ _)); exact BK157.out) hb); have n4_ := Aside0.mk (blk_below (g := gb158) (o := .cells #[.int .i64 0, .int .i64 0, .int .i64 0] 35 (0, 0)) (by (with_reducible repeat (first | refine blk_drewN ?_ _ | refine blk_drew ?_ | refine blk_alloc ?_ _)); exact BK158.out) hb); have n5_ := Aside0.mk (below_step (by repeat (first | (with_reducible first | exact HB.out | apply below_alloc | apply pw_below_drewN | apply below_drew1 | refine below_set ?_ GE150.out | refine below_set ?_ GE151.out | refine below_set ?_ GE156.out | refine below_set ?_ GE157.out | refine below_set ?_ GE158.out) | exact HB.out)) hb); clear BK150; clear BK151; clear BK156; clear BK157; clear BK158; clear HB; have BK150 := n0_; have BK151 := n1_; have BK156 := n2_; have BK157 := n3_; have BK158 := n4_; have HB := n5_; clear n0_ n1_ n2_ n3_ n4_ n5_; (try clear hb); (try clear hb2); (try clear hk); (try clear hi); have hnb69 := NB157_151.out; have hnc69 := NB151_157.out; have hnb70 := NB157_158.out; have hnc70 := NB158_157.out; have hcz71_0 : w68.cell? ⟨gb157, 0, none⟩ = some (.int .i64 0) := (blk_cell BK157.out 0).trans rfl; have hcz71_1 : w68.cell? ⟨gb157, 1, none⟩ = some (.int .i64 0) := (blk_cell BK157.out 1).trans rfl; have hcz71_2 : w68.cell? ⟨gb157, 2, none⟩ = some (.int .i64 0) := (blk_cell BK157.out 2).trans rfl; have hfz71_0 := blk_frozen BK157.out 0; have hfz71_1 := blk_frozen BK157.out 1; have hfz71_2 := blk_frozen BK157.out 2; have hnb72 := NB151_158.out; have hnc72 := NB158_151.out; have hcz73_0 : w68.cell? ⟨gb151, 0, none⟩ = some (.int .i64 x152000_3) := (blk_cell BK151.out 0).trans rfl; have hcz73_1 : w68.cell? ⟨gb151, 1, none⟩ = some (.int .i64 x152001_3) := (blk_cell BK151.out 1).trans rfl; have hcz73_2 : w68.cell? ⟨gb151, 2, none⟩ = some (.int .i64 x152002_3) := (blk_cell BK151.out 2).trans rfl; have hfz73_0 := blk_frozen BK151.out 0; have hfz73_1 := blk_frozen BK151.out 1; have hfz73_2 := blk_frozen BK151.out 2; have hcz74_0 : w68.cell? ⟨gb156, 0, none⟩ = some (.int .i64 ((rd_T38 l1 x51_3).f0)) := (blk_cell BK156.out 0).trans rfl; have hcz74_1 : w68.cell? ⟨gb156, 1, none⟩ = some (.int .i64 ((rd_T38 l1 x51_3).f1)) := (blk_cell BK156.out 1).trans rfl; have hfz74_0 := blk_frozen BK156.out 0; have hfz74_1 := blk_frozen BK156.out 1) | ((with_reducible refine gate_callee (f := 17) rfl ?_); refine goesL_ (some 78) rfl rfl Try.func17 (by kernel_rfl) rfl #[.agg #[.int .i64 x152000_3, .int .i64 x152001_3, .int .i64 x152002_3], .int .i64 ((rd_T38 l1 x51_3).f1)] rfl (by (try simp only [List.map_toArray, List.map_cons, List.map_nil]); first | done | rfl | (simp only [List.length_drop, List.length_take]; rfl)) ?_; (with_reducible refine (bywashref1_Take.calls x152000_3 x152001_3 x152002_3 ((rd_T38 l1 x51_3).f1) t163 t164 t165 t166 _ A58.out).mono ?_); rintro e w75 ⟨rfl, hb⟩; refine ⟨_, rfl, ?_⟩; have n0_ := Aside0.mk (blk_below (g := gb150) (o := .cells #[.int .i64 x151000_3, .int .i64 x151001_3, .int .i64 x151002_3] 25 (0, 0)) (by (with_reducible repeat (first | refine blk_drewN ?_ _ | refine blk_drew ?_ | refine blk_alloc ?_ _)); refine blk_far ?_ NB150_157.out _; (with_reducible repeat (first | refine blk_drewN ?_ _ | refine blk_drew ?_ | refine blk_alloc ?_ _)); refine blk_far ?_ NB150_157.out _; (with_reducible repeat (first | refine blk_drewN ?_ _ | refine blk_drew ?_ | refine blk_alloc ?_ _)); refine blk_far ?_ NB150_157.out _; (with_reducible repeat (first | refine blk_drewN ?_ _ | refine blk_drew ?_ | refine blk_alloc ?_ _)); exact BK150.out) hb); have n1_ := Aside0.mk (blk_below (g := gb151) (o := .cells #[.int .i64 x152000_3, .int .i64 x152001_3, .int .i64 x152002_3] 35 (0, 0)) (by (with_reducible repeat (first | refine blk_drewN ?_ _ | refine blk_drew ?_ | refine blk_alloc ?_ _)); refine blk_far ?_ NB151_157.out _; (with_reducible repeat (first | refine blk_drewN ?_ _ | refine blk_drew ?_ | refine blk_alloc ?_ _)); refine blk_far ?_ NB151_157.out _; (with_reducible repeat (first | refine blk_drewN ?_ _ | refine blk_drew ?_ | refine blk_alloc ?_ _)); refine blk_far ?_ NB151_157.out _; (with_reducible repeat (first | refine blk_drewN ?_ _ | refine blk_drew ?_ | refine blk_alloc ?_ _)); exact BK151.out) hb); have n2_ := Aside0.mk (blk_below (g := gb156) (o := .cells #[.int .i64 ((rd_T38 l1 x51_3).f0), .int .i64 ((rd_T38 l1 x51_3).f1)] 38 (0, 0)) (by (with_reducible repeat (first | refine blk_drewN ?_ _ | refine blk_drew ?_ | refine blk_alloc ?_ _)); refine blk_far ?_ NB156_157.out _; (with_reducible repeat (first | refine blk_drewN ?_ _ | refine blk_drew ?_ | refine blk_alloc ?_ _)); refine blk_far ?_ NB156_157.out _; (with_reducible repeat (first | refine blk_drewN ?_ _ | refine blk_drew ?_ | refine blk_alloc ?_ _)); refine blk_far ?_ NB156_157.out _; (with_reducible repeat (first | refine blk_drewN ?_ _ | refine blk_drew ?_ | refine blk_alloc ?_ _)); exact BK156.out) hb); have n3_ := Aside0.mk (blk_below (g := gb157) (o := .cells #[.int .i64 t159, .int .i64 t160, .int .i64 t161] 25 (0, 0)) (by (with_reducible repeat (first | refine blk_drewN ?_ _ | refine blk_drew ?_ | refine blk_alloc ?_ _)); refine blk_put (cs := #[.int .i64 t159, .int .i64 t160, .int .i64 0]) ?_ 2 _ rfl; (with_reducible repeat (first | refine blk_drewN ?_ _ | refine blk_drew ?_ | refine blk_alloc ?_ _)); refine blk_put (cs := #[.int .i64 t159, .int .i64 0, .int .i64 0]) ?_ 1 _ rfl; (with_reducible repeat (first | refine blk_drewN ?_ _ | refine blk_drew ?_ | refine blk_alloc ?_ _)); refine blk_put (cs := #[.int .i64 0, .int .i64 0, .int .i64 0]) ?_ 0 _ rfl; (with_reducible repeat (first | refine blk_drewN ?_ _ | refine blk_drew ?_ | refine blk_alloc ?_ _)); exact BK157.out) hb); have n4_ := Aside0.mk (blk_below (g := gb158) (o := .cells #[.int .i64 0, .int .i64 0, .int .i64 0] 35 (0, 0)) (by (with_reducible repeat (first | refine blk_drewN ?_ _ | refine blk_drew ?_ | refine blk_alloc ?_ _)); refine blk_far ?_ NB158_157.out _; (with_reducible repeat (first | refine blk_drewN ?_ _ | refine blk_drew ?_ | refine blk_alloc ?_ _)); refine blk_far ?_ NB158_157.out _; (with_reducible repeat (first | refine blk_drewN ?_ _ | refine blk_drew ?_ | refine blk_alloc ?_ _)); refine blk_far ?_ NB158_157.out _; (with_reducible repeat (first | refine blk_drewN ?_ _ | refine blk_drew ?_ | refine blk_alloc ?_ _)); exact BK158.out) hb); have n5_ := Aside0.mk (below_step (by repeat (first | (with_reducible first | exact HB.out | apply below_alloc | apply pw_below_drewN | apply below_drew1 | refine below_set ?_ GE150.out | refine below_set ?_ GE151.out | refine below_set ?_ GE156.out | refine below_set ?_ GE157.out | refine below_set ?_ GE158.out) | exact HB.out)) hb); clear BK150; clear BK151; clear BK156; clear BK157; clear BK158; clear HB; have BK150 := n0_; have BK151 := n1_; have BK156 := n2_; have BK157 := n3_; have BK158 := n4_; have HB := n5_; clear n0_ n1_ n2_ n3_ n4_ n5_; (try clear hb); (try clear hb2); (try clear hk); (try clear hi); have hcz76_0 : w75.cell? ⟨gb158, 0, none⟩ = some (.int .i64 0) := (blk_cell BK158.out 0).trans rfl; have hcz76_1 : w75.cell? ⟨gb158, 1, none⟩ = some (.int .i64 0) := (blk_cell BK158.out 1).trans rfl; have hcz76_2 : w75.cell? ⟨gb158, 2, none⟩ = some (.int .i64 0) := (blk_cell BK158.out 2).trans rfl; have hfz76_0 := blk_frozen BK158.out 0; have hfz76_1 := blk_frozen BK158.out 1; have hfz76_2 := blk_frozen BK158.out 2))
                                      go_meet
                                      case rel => exact ⟨_, (t162), (t166), (0), (0), (t159), (t160), (t161), (t163), (t164), (t165), (by first | rfl | (simp; done) | (simp [*]; done)), (by first | rfl | (simp; done) | (simp [*]; done)), (by first | rfl | (simp; done) | (simp [*]; done)), (by first | rfl | (simp; done) | (simp [*]; done)), H', ⟨by have := HJ2.out; have := HJ10.out; have := HK3.out; have := HJ34.out; first | omega | exact Nat.le_refl _⟩, ⟨by (with_reducible repeat (first | refine blk_drewN ?_ _ | refine blk_drew ?_ | refine blk_alloc ?_ _)); refine blk_far ?_ NB150_158.out _; (with_reducible repeat (first | refine blk_drewN ?_ _ | refine blk_drew ?_ | refine blk_alloc ?_ _)); refine blk_far ?_ NB150_158.out _; (with_reducible repeat (first | refine blk_drewN ?_ _ | refine blk_drew ?_ | refine blk_alloc ?_ _)); refine blk_far ?_ NB150_158.out _; (with_reducible repeat (first | refine blk_drewN ?_ _ | refine blk_drew ?_ | refine blk_alloc ?_ _)); exact BK150.out⟩, ⟨by (with_reducible repeat (first | refine blk_drewN ?_ _ | refine blk_drew ?_ | refine blk_alloc ?_ _)); refine blk_far ?_ NB151_158.out _; (with_reducible repeat (first | refine blk_drewN ?_ _ | refine blk_drew ?_ | refine blk_alloc ?_ _)); refine blk_far ?_ NB151_158.out _; (with_reducible repeat (first | refine blk_drewN ?_ _ | refine blk_drew ?_ | refine blk_alloc ?_ _)); refine blk_far ?_ NB151_158.out _; (with_reducible repeat (first | refine blk_drewN ?_ _ | refine blk_drew ?_ | refine blk_alloc ?_ _)); exact BK151.out⟩, ⟨by (with_reducible repeat (first | refine blk_drewN ?_ _ | refine blk_drew ?_ | refine blk_alloc ?_ _)); refine blk_far ?_ NB156_158.out _; (with_reducible repeat (first | refine blk_drewN ?_ _ | refine blk_drew ?_ | refine blk_alloc ?_ _)); refine blk_far ?_ NB156_158.out _; (with_reducible repeat (first | refine blk_drewN ?_ _ | refine blk_drew ?_ | refine blk_alloc ?_ _)); refine blk_far ?_ NB156_158.out _; (with_reducible repeat (first | refine blk_drewN ?_ _ | refine blk_drew ?_ | refine blk_alloc ?_ _)); exact BK156.out⟩, ⟨by (with_reducible repeat (first | refine blk_drewN ?_ _ | refine blk_drew ?_ | refine blk_alloc ?_ _)); refine blk_far ?_ NB157_158.out _; (with_reducible repeat (first | refine blk_drewN ?_ _ | refine blk_drew ?_ | refine blk_alloc ?_ _)); refine blk_far ?_ NB157_158.out _; (with_reducible repeat (first | refine blk_drewN ?_ _ | refine blk_drew ?_ | refine blk_alloc ?_ _)); refine blk_far ?_ NB157_158.out _; (with_reducible repeat (first | refine blk_drewN ?_ _ | refine blk_drew ?_ | refine blk_alloc ?_ _)); exact BK157.out⟩, ⟨by (with_reducible repeat (first | refine blk_drewN ?_ _ | refine blk_drew ?_ | refine blk_alloc ?_ _)); refine blk_put (cs := #[.int .i64 t163, .int .i64 t164, .int .i64 0]) ?_ 2 _ rfl; (with_reducible repeat (first | refine blk_drewN ?_ _ | refine blk_drew ?_ | refine blk_alloc ?_ _)); refine blk_put (cs := #[.int .i64 t163, .int .i64 0, .int .i64 0]) ?_ 1 _ rfl; (with_reducible repeat (first | refine blk_drewN ?_ _ | refine blk_drew ?_ | refine blk_alloc ?_ _)); refine blk_put (cs := #[.int .i64 0, .int .i64 0, .int .i64 0]) ?_ 0 _ rfl; (with_reducible repeat (first | refine blk_drewN ?_ _ | refine blk_drew ?_ | refine blk_alloc ?_ _)); exact BK158.out⟩, ⟨by repeat (first | (with_reducible first | exact HB.out | apply below_alloc | apply pw_below_drewN | apply below_drew1 | refine below_set ?_ GE150.out | refine below_set ?_ GE151.out | refine below_set ?_ GE156.out | refine below_set ?_ GE157.out | refine below_set ?_ GE158.out) | exact HB.out)⟩⟩
                                    · rw [if_neg c56] at H
                                      have c56b0 : (((rd_T38 l1 x51_3).f0) == 1) = false := beq_eq_false_iff_ne.mpr c56
                                      have c56b1 : (((rd_T38 l1 x51_3).f0) != 1) = true := bne_iff_ne.mpr c56
                                      (first | rw [c56b0] | (simp only [i64_w, i32_w]; rw [c56b0]) | skip)
                                      by_cases c77 : ((rd_T38 l1 x51_3).f0) = 2
                                      · rw [if_pos c77] at H
                                        have c77b0 : (((rd_T38 l1 x51_3).f0) == 2) = true := beq_iff_eq.mpr c77
                                        have c77b1 : (((rd_T38 l1 x51_3).f0) != 2) = false := bne_eq_false_iff_eq.mpr c77
                                        clear c77
                                        replace H := Option.bind_eq_some_iff.mp H
                                        obtain ⟨⟨t167, t168, t169, t170⟩, A780, H⟩ := H
                                        replace H : ((bywashref1_Grow.f x152000_3 x152001_3 x152002_3 ((rd_T38 l1 x51_3).f1)).bind fun bt171 => (bywashlaw12_WindowPlays.j4 kj34 t170 bt171.2.2.2 0 0 l1 (l1.length : Int) x51_3 t167 t168 t169 bt171.1 bt171.2.1 bt171.2.2.1)) = some r := H
                                        have A78 := Aside0.mk A780
                                        clear A780
                                        replace H := Option.bind_eq_some_iff.mp H
                                        obtain ⟨⟨t171, t172, t173, t174⟩, A790, H⟩ := H
                                        replace H : (bywashlaw12_WindowPlays.j4 kj34 t170 t174 0 0 l1 (l1.length : Int) x51_3 t167 t168 t169 t171 t172 t173) = some r := H
                                        have A79 := Aside0.mk A790
                                        clear A790
                                        have H' := Aside0.mk H
                                        clear H
                                        have hnb80 := NB150_151.out
                                        have hnc80 := NB151_150.out
                                        have hnb81 := NB150_156.out
                                        have hnc81 := NB156_150.out
                                        have hnb82 := NB150_157.out
                                        have hnc82 := NB157_150.out
                                        have hnb83 := NB150_158.out
                                        have hnc83 := NB158_150.out
                                        have hcz84_0 : w50.cell? ⟨gb150, 0, none⟩ = some (.int .i64 x151000_3) := (blk_cell BK150.out 0).trans rfl
                                        have hcz84_1 : w50.cell? ⟨gb150, 1, none⟩ = some (.int .i64 x151001_3) := (blk_cell BK150.out 1).trans rfl
                                        have hcz84_2 : w50.cell? ⟨gb150, 2, none⟩ = some (.int .i64 x151002_3) := (blk_cell BK150.out 2).trans rfl
                                        have hfz84_0 := blk_frozen BK150.out 0
                                        have hfz84_1 := blk_frozen BK150.out 1
                                        have hfz84_2 := blk_frozen BK150.out 2
                                        have hnb85 := NB156_151.out
                                        have hnc85 := NB151_156.out
                                        have hnb86 := NB156_157.out
                                        have hnc86 := NB157_156.out
                                        have hnb87 := NB156_158.out
                                        have hnc87 := NB158_156.out
                                        have hcz88_0 : w50.cell? ⟨gb156, 0, none⟩ = some (.int .i64 ((rd_T38 l1 x51_3).f0)) := (blk_cell BK156.out 0).trans rfl
                                        have hcz88_1 : w50.cell? ⟨gb156, 1, none⟩ = some (.int .i64 ((rd_T38 l1 x51_3).f1)) := (blk_cell BK156.out 1).trans rfl
                                        have hfz88_0 := blk_frozen BK156.out 0
                                        have hfz88_1 := blk_frozen BK156.out 1
                                        go_wp2_with (first | ((with_reducible refine gate_callee (f := 14) rfl ?_); refine goesL_ (some 87) rfl rfl Try.func14 (by kernel_rfl) rfl #[.agg #[.int .i64 x151000_3, .int .i64 x151001_3, .int .i64 x151002_3], .int .i64 ((rd_T38 l1 x51_3).f1)] rfl (by (try simp only [List.map_toArray, List.map_cons, List.map_nil]); first | done | rfl | (simp only [List.length_drop, List.length_take]; rfl)) ?_; (with_reducible refine (window_Grow.calls x151000_3 x151001_3 x151002_3 ((rd_T38 l1 x51_3).f1) t167 t168 t169 t170 _ A78.out).mono ?_); rintro e w89 ⟨rfl, hb⟩; refine ⟨_, rfl, ?_⟩; have n0_ := Aside0.mk (blk_below (g := gb150) (o := .cells #[.int .i64 x151000_3, .int .i64 x151001_3, .int .i64 x151002_3] 25 (0, 0)) (by (with_reducible repeat (first | refine blk_drewN ?_ _ | refine blk_drew ?_ | refine blk_alloc ?_ _)); exact BK150.out) hb); have n1_ := Aside0.mk (blk_below (g := gb151) (o := .cells #[.int .i64 x152000_3, .int .i64 x152001_3, .int .i64 x152002_3] 35 (0, 0)) (by (with_reducible repeat (first | refine blk_drewN ?_ _ | refine blk_drew ?_ | refine blk_alloc ?_ _)); exact BK151.out) hb); have n2_ := Aside0.mk (blk_below (g := gb156) (o := .cells #[.int .i64 ((rd_T38 l1 x51_3).f0), .int .i64 ((rd_T38 l1 x51_3).f1)] 38 (0, 0)) (by (with_reducible repeat (first | refine blk_drewN ?_ _ | refine blk_drew ?_ | refine blk_alloc ?_ _)); exact BK156.out) hb); have n3_ := Aside0.mk (blk_below (g := gb157) (o := .cells #[.int .i64 0, .int .i64 0, .int .i64 0] 25 (0, 0)) (by (with_reducible repeat (first | refine blk_drewN ?_ _ | refine blk_drew ?_ | refine blk_alloc ?_ _)); exact BK157.out) hb); have n4_ := Aside0.mk (blk_below (g := gb158) (o := .cells #[.int .i64 0, .int .i64 0, .int .i64 0] 35 (0, 0)) (by (with_reducible repeat (first | refine blk_drewN ?_ _ | refine blk_drew ?_ | refine blk_alloc ?_ _)); exact BK158.out) hb); have n5_ := Aside0.mk (below_step (by repeat (first | (with_reducible first | exact HB.out | apply below_alloc | apply pw_below_drewN | apply below_drew1 | refine below_set ?_ GE150.out | refine below_set ?_ GE151.out | refine below_set ?_ GE156.out | refine below_set ?_ GE157.out | refine below_set ?_ GE158.out) | exact HB.out)) hb); clear BK150; clear BK151; clear BK156; clear BK157; clear BK158; clear HB; have BK150 := n0_; have BK151 := n1_; have BK156 := n2_; have BK157 := n3_; have BK158 := n4_; have HB := n5_; clear n0_ n1_ n2_ n3_ n4_ n5_; (try clear hb); (try clear hb2); (try clear hk); (try clear hi); have hnb90 := NB157_151.out; have hnc90 := NB151_157.out; have hnb91 := NB157_158.out; have hnc91 := NB158_157.out; have hcz92_0 : w89.cell? ⟨gb157, 0, none⟩ = some (.int .i64 0) := (blk_cell BK157.out 0).trans rfl; have hcz92_1 : w89.cell? ⟨gb157, 1, none⟩ = some (.int .i64 0) := (blk_cell BK157.out 1).trans rfl; have hcz92_2 : w89.cell? ⟨gb157, 2, none⟩ = some (.int .i64 0) := (blk_cell BK157.out 2).trans rfl; have hfz92_0 := blk_frozen BK157.out 0; have hfz92_1 := blk_frozen BK157.out 1; have hfz92_2 := blk_frozen BK157.out 2; have hnb93 := NB151_158.out; have hnc93 := NB158_151.out; have hcz94_0 : w89.cell? ⟨gb151, 0, none⟩ = some (.int .i64 x152000_3) := (blk_cell BK151.out 0).trans rfl; have hcz94_1 : w89.cell? ⟨gb151, 1, none⟩ = some (.int .i64 x152001_3) := (blk_cell BK151.out 1).trans rfl; have hcz94_2 : w89.cell? ⟨gb151, 2, none⟩ = some (.int .i64 x152002_3) := (blk_cell BK151.out 2).trans rfl; have hfz94_0 := blk_frozen BK151.out 0; have hfz94_1 := blk_frozen BK151.out 1; have hfz94_2 := blk_frozen BK151.out 2; have hcz95_0 : w89.cell? ⟨gb156, 0, none⟩ = some (.int .i64 ((rd_T38 l1 x51_3).f0)) := (blk_cell BK156.out 0).trans rfl; have hcz95_1 : w89.cell? ⟨gb156, 1, none⟩ = some (.int .i64 ((rd_T38 l1 x51_3).f1)) := (blk_cell BK156.out 1).trans rfl; have hfz95_0 := blk_frozen BK156.out 0; have hfz95_1 := blk_frozen BK156.out 1) | ((with_reducible refine gate_callee (f := 18) rfl ?_); refine goesL_ (some 94) rfl rfl Try.func18 (by kernel_rfl) rfl #[.agg #[.int .i64 x152000_3, .int .i64 x152001_3, .int .i64 x152002_3], .int .i64 ((rd_T38 l1 x51_3).f1)] rfl (by (try simp only [List.map_toArray, List.map_cons, List.map_nil]); first | done | rfl | (simp only [List.length_drop, List.length_take]; rfl)) ?_; (with_reducible refine (bywashref1_Grow.calls x152000_3 x152001_3 x152002_3 ((rd_T38 l1 x51_3).f1) t171 t172 t173 t174 _ A79.out).mono ?_); rintro e w96 ⟨rfl, hb⟩; refine ⟨_, rfl, ?_⟩; have n0_ := Aside0.mk (blk_below (g := gb150) (o := .cells #[.int .i64 x151000_3, .int .i64 x151001_3, .int .i64 x151002_3] 25 (0, 0)) (by (with_reducible repeat (first | refine blk_drewN ?_ _ | refine blk_drew ?_ | refine blk_alloc ?_ _)); refine blk_far ?_ NB150_157.out _; (with_reducible repeat (first | refine blk_drewN ?_ _ | refine blk_drew ?_ | refine blk_alloc ?_ _)); refine blk_far ?_ NB150_157.out _; (with_reducible repeat (first | refine blk_drewN ?_ _ | refine blk_drew ?_ | refine blk_alloc ?_ _)); refine blk_far ?_ NB150_157.out _; (with_reducible repeat (first | refine blk_drewN ?_ _ | refine blk_drew ?_ | refine blk_alloc ?_ _)); exact BK150.out) hb); have n1_ := Aside0.mk (blk_below (g := gb151) (o := .cells #[.int .i64 x152000_3, .int .i64 x152001_3, .int .i64 x152002_3] 35 (0, 0)) (by (with_reducible repeat (first | refine blk_drewN ?_ _ | refine blk_drew ?_ | refine blk_alloc ?_ _)); refine blk_far ?_ NB151_157.out _; (with_reducible repeat (first | refine blk_drewN ?_ _ | refine blk_drew ?_ | refine blk_alloc ?_ _)); refine blk_far ?_ NB151_157.out _; (with_reducible repeat (first | refine blk_drewN ?_ _ | refine blk_drew ?_ | refine blk_alloc ?_ _)); refine blk_far ?_ NB151_157.out _; (with_reducible repeat (first | refine blk_drewN ?_ _ | refine blk_drew ?_ | refine blk_alloc ?_ _)); exact BK151.out) hb); have n2_ := Aside0.mk (blk_below (g := gb156) (o := .cells #[.int .i64 ((rd_T38 l1 x51_3).f0), .int .i64 ((rd_T38 l1 x51_3).f1)] 38 (0, 0)) (by (with_reducible repeat (first | refine blk_drewN ?_ _ | refine blk_drew ?_ | refine blk_alloc ?_ _)); refine blk_far ?_ NB156_157.out _; (with_reducible repeat (first | refine blk_drewN ?_ _ | refine blk_drew ?_ | refine blk_alloc ?_ _)); refine blk_far ?_ NB156_157.out _; (with_reducible repeat (first | refine blk_drewN ?_ _ | refine blk_drew ?_ | refine blk_alloc ?_ _)); refine blk_far ?_ NB156_157.out _; (with_reducible repeat (first | refine blk_drewN ?_ _ | refine blk_drew ?_ | refine blk_alloc ?_ _)); exact BK156.out) hb); have n3_ := Aside0.mk (blk_below (g := gb157) (o := .cells #[.int .i64 t167, .int .i64 t168, .int .i64 t169] 25 (0, 0)) (by (with_reducible repeat (first | refine blk_drewN ?_ _ | refine blk_drew ?_ | refine blk_alloc ?_ _)); refine blk_put (cs := #[.int .i64 t167, .int .i64 t168, .int .i64 0]) ?_ 2 _ rfl; (with_reducible repeat (first | refine blk_drewN ?_ _ | refine blk_drew ?_ | refine blk_alloc ?_ _)); refine blk_put (cs := #[.int .i64 t167, .int .i64 0, .int .i64 0]) ?_ 1 _ rfl; (with_reducible repeat (first | refine blk_drewN ?_ _ | refine blk_drew ?_ | refine blk_alloc ?_ _)); refine blk_put (cs := #[.int .i64 0, .int .i64 0, .int .i64 0]) ?_ 0 _ rfl; (with_reducible repeat (first | refine blk_drewN ?_ _ | refine blk_drew ?_ | refine blk_alloc ?_ _)); exact BK157.out) hb); have n4_ := Aside0.mk (blk_below (g := gb158) (o := .cells #[.int .i64 0, .int .i64 0, .int .i64 0] 35 (0, 0)) (by (with_reducible repeat (first | refine blk_drewN ?_ _ | refine blk_drew ?_ | refine blk_alloc ?_ _)); refine blk_far ?_ NB158_157.out _; (with_reducible repeat (first | refine blk_drewN ?_ _ | refine blk_drew ?_ | refine blk_alloc ?_ _)); refine blk_far ?_ NB158_157.out _; (with_reducible repeat (first | refine blk_drewN ?_ _ | refine blk_drew ?_ | refine blk_alloc ?_ _)); refine blk_far ?_ NB158_157.out _; (with_reducible repeat (first | refine blk_drewN ?_ _ | refine blk_drew ?_ | refine blk_alloc ?_ _)); exact BK158.out) hb); have n5_ := Aside0.mk (below_step (by repeat (first | (with_reducible first | exact HB.out | apply below_alloc | apply pw_below_drewN | apply below_drew1 | refine below_set ?_ GE150.out | refine below_set ?_ GE151.out | refine below_set ?_ GE156.out | refine below_set ?_ GE157.out | refine below_set ?_ GE158.out) | exact HB.out)) hb); clear BK150; clear BK151; clear BK156; clear BK157; clear BK158; clear HB; have BK150 := n0_; have BK151 := n1_; have BK156 := n2_; have BK157 := n3_; have BK158 := n4_; have HB := n5_; clear n0_ n1_ n2_ n3_ n4_ n5_; (try clear hb); (try clear hb2); (try clear hk); (try clear hi); have hcz97_0 : w96.cell? ⟨gb158, 0, none⟩ = some (.int .i64 0) := (blk_cell BK158.out 0).trans rfl; have hcz97_1 : w96.cell? ⟨gb158, 1, none⟩ = some (.int .i64 0) := (blk_cell BK158.out 1).trans rfl; have hcz97_2 : w96.cell? ⟨gb158, 2, none⟩ = some (.int .i64 0) := (blk_cell BK158.out 2).trans rfl; have hfz97_0 := blk_frozen BK158.out 0; have hfz97_1 := blk_frozen BK158.out 1; have hfz97_2 := blk_frozen BK158.out 2))
                                        go_meet
                                        case rel => exact ⟨_, (t170), (t174), (0), (0), (t167), (t168), (t169), (t171), (t172), (t173), (by first | rfl | (simp; done) | (simp [*]; done)), (by first | rfl | (simp; done) | (simp [*]; done)), (by first | rfl | (simp; done) | (simp [*]; done)), (by first | rfl | (simp; done) | (simp [*]; done)), H', ⟨by have := HJ2.out; have := HJ10.out; have := HK3.out; have := HJ34.out; first | omega | exact Nat.le_refl _⟩, ⟨by (with_reducible repeat (first | refine blk_drewN ?_ _ | refine blk_drew ?_ | refine blk_alloc ?_ _)); refine blk_far ?_ NB150_158.out _; (with_reducible repeat (first | refine blk_drewN ?_ _ | refine blk_drew ?_ | refine blk_alloc ?_ _)); refine blk_far ?_ NB150_158.out _; (with_reducible repeat (first | refine blk_drewN ?_ _ | refine blk_drew ?_ | refine blk_alloc ?_ _)); refine blk_far ?_ NB150_158.out _; (with_reducible repeat (first | refine blk_drewN ?_ _ | refine blk_drew ?_ | refine blk_alloc ?_ _)); exact BK150.out⟩, ⟨by (with_reducible repeat (first | refine blk_drewN ?_ _ | refine blk_drew ?_ | refine blk_alloc ?_ _)); refine blk_far ?_ NB151_158.out _; (with_reducible repeat (first | refine blk_drewN ?_ _ | refine blk_drew ?_ | refine blk_alloc ?_ _)); refine blk_far ?_ NB151_158.out _; (with_reducible repeat (first | refine blk_drewN ?_ _ | refine blk_drew ?_ | refine blk_alloc ?_ _)); refine blk_far ?_ NB151_158.out _; (with_reducible repeat (first | refine blk_drewN ?_ _ | refine blk_drew ?_ | refine blk_alloc ?_ _)); exact BK151.out⟩, ⟨by (with_reducible repeat (first | refine blk_drewN ?_ _ | refine blk_drew ?_ | refine blk_alloc ?_ _)); refine blk_far ?_ NB156_158.out _; (with_reducible repeat (first | refine blk_drewN ?_ _ | refine blk_drew ?_ | refine blk_alloc ?_ _)); refine blk_far ?_ NB156_158.out _; (with_reducible repeat (first | refine blk_drewN ?_ _ | refine blk_drew ?_ | refine blk_alloc ?_ _)); refine blk_far ?_ NB156_158.out _; (with_reducible repeat (first | refine blk_drewN ?_ _ | refine blk_drew ?_ | refine blk_alloc ?_ _)); exact BK156.out⟩, ⟨by (with_reducible repeat (first | refine blk_drewN ?_ _ | refine blk_drew ?_ | refine blk_alloc ?_ _)); refine blk_far ?_ NB157_158.out _; (with_reducible repeat (first | refine blk_drewN ?_ _ | refine blk_drew ?_ | refine blk_alloc ?_ _)); refine blk_far ?_ NB157_158.out _; (with_reducible repeat (first | refine blk_drewN ?_ _ | refine blk_drew ?_ | refine blk_alloc ?_ _)); refine blk_far ?_ NB157_158.out _; (with_reducible repeat (first | refine blk_drewN ?_ _ | refine blk_drew ?_ | refine blk_alloc ?_ _)); exact BK157.out⟩, ⟨by (with_reducible repeat (first | refine blk_drewN ?_ _ | refine blk_drew ?_ | refine blk_alloc ?_ _)); refine blk_put (cs := #[.int .i64 t171, .int .i64 t172, .int .i64 0]) ?_ 2 _ rfl; (with_reducible repeat (first | refine blk_drewN ?_ _ | refine blk_drew ?_ | refine blk_alloc ?_ _)); refine blk_put (cs := #[.int .i64 t171, .int .i64 0, .int .i64 0]) ?_ 1 _ rfl; (with_reducible repeat (first | refine blk_drewN ?_ _ | refine blk_drew ?_ | refine blk_alloc ?_ _)); refine blk_put (cs := #[.int .i64 0, .int .i64 0, .int .i64 0]) ?_ 0 _ rfl; (with_reducible repeat (first | refine blk_drewN ?_ _ | refine blk_drew ?_ | refine blk_alloc ?_ _)); exact BK158.out⟩, ⟨by repeat (first | (with_reducible first | exact HB.out | apply below_alloc | apply pw_below_drewN | apply below_drew1 | refine below_set ?_ GE150.out | refine below_set ?_ GE151.out | refine below_set ?_ GE156.out | refine below_set ?_ GE157.out | refine below_set ?_ GE158.out) | exact HB.out)⟩⟩
                                      · rw [if_neg c77] at H
                                        have c77b0 : (((rd_T38 l1 x51_3).f0) == 2) = false := beq_eq_false_iff_ne.mpr c77
                                        have c77b1 : (((rd_T38 l1 x51_3).f0) != 2) = true := bne_iff_ne.mpr c77
                                        by_cases c98 : ((rd_T38 l1 x51_3).f0) = 3
                                        · rw [if_pos c98] at H
                                          have c98b0 : (((rd_T38 l1 x51_3).f0) == 3) = true := beq_iff_eq.mpr c98
                                          have c98b1 : (((rd_T38 l1 x51_3).f0) != 3) = false := bne_eq_false_iff_eq.mpr c98
                                          clear c98
                                          replace H := Option.bind_eq_some_iff.mp H
                                          obtain ⟨⟨t175, t176, t177, t178⟩, A990, H⟩ := H
                                          replace H : ((bywashref1_Shift.f x152000_3 x152001_3 x152002_3 ((rd_T38 l1 x51_3).f1)).bind fun bt179 => (bywashlaw12_WindowPlays.j4 kj34 t178 bt179.2.2.2 0 0 l1 (l1.length : Int) x51_3 t175 t176 t177 bt179.1 bt179.2.1 bt179.2.2.1)) = some r := H
                                          have A99 := Aside0.mk A990
                                          clear A990
                                          replace H := Option.bind_eq_some_iff.mp H
                                          obtain ⟨⟨t179, t180, t181, t182⟩, A1000, H⟩ := H
                                          replace H : (bywashlaw12_WindowPlays.j4 kj34 t178 t182 0 0 l1 (l1.length : Int) x51_3 t175 t176 t177 t179 t180 t181) = some r := H
                                          have A100 := Aside0.mk A1000
                                          clear A1000
                                          have H' := Aside0.mk H
                                          clear H
                                          have hnb101 := NB150_151.out
                                          have hnc101 := NB151_150.out
                                          have hnb102 := NB150_156.out
                                          have hnc102 := NB156_150.out
                                          have hnb103 := NB150_157.out
                                          have hnc103 := NB157_150.out
                                          have hnb104 := NB150_158.out
                                          have hnc104 := NB158_150.out
                                          have hcz105_0 : w50.cell? ⟨gb150, 0, none⟩ = some (.int .i64 x151000_3) := (blk_cell BK150.out 0).trans rfl
                                          have hcz105_1 : w50.cell? ⟨gb150, 1, none⟩ = some (.int .i64 x151001_3) := (blk_cell BK150.out 1).trans rfl
                                          have hcz105_2 : w50.cell? ⟨gb150, 2, none⟩ = some (.int .i64 x151002_3) := (blk_cell BK150.out 2).trans rfl
                                          have hfz105_0 := blk_frozen BK150.out 0
                                          have hfz105_1 := blk_frozen BK150.out 1
                                          have hfz105_2 := blk_frozen BK150.out 2
                                          have hnb106 := NB156_151.out
                                          have hnc106 := NB151_156.out
                                          have hnb107 := NB156_157.out
                                          have hnc107 := NB157_156.out
                                          have hnb108 := NB156_158.out
                                          have hnc108 := NB158_156.out
                                          have hcz109_0 : w50.cell? ⟨gb156, 0, none⟩ = some (.int .i64 ((rd_T38 l1 x51_3).f0)) := (blk_cell BK156.out 0).trans rfl
                                          have hcz109_1 : w50.cell? ⟨gb156, 1, none⟩ = some (.int .i64 ((rd_T38 l1 x51_3).f1)) := (blk_cell BK156.out 1).trans rfl
                                          have hfz109_0 := blk_frozen BK156.out 0
                                          have hfz109_1 := blk_frozen BK156.out 1
                                          go_wp2_with (first | ((with_reducible refine gate_callee (f := 15) rfl ?_); refine goesL_ (some 103) rfl rfl Try.func15 (by kernel_rfl) rfl #[.agg #[.int .i64 x151000_3, .int .i64 x151001_3, .int .i64 x151002_3], .int .i64 ((rd_T38 l1 x51_3).f1)] rfl (by (try simp only [List.map_toArray, List.map_cons, List.map_nil]); first | done | rfl | (simp only [List.length_drop, List.length_take]; rfl)) ?_; (with_reducible refine (window_Shift.calls x151000_3 x151001_3 x151002_3 ((rd_T38 l1 x51_3).f1) t175 t176 t177 t178 _ A99.out).mono ?_); rintro e w110 ⟨rfl, hb⟩; refine ⟨_, rfl, ?_⟩; have n0_ := Aside0.mk (blk_below (g := gb150) (o := .cells #[.int .i64 x151000_3, .int .i64 x151001_3, .int .i64 x151002_3] 25 (0, 0)) (by (with_reducible repeat (first | refine blk_drewN ?_ _ | refine blk_drew ?_ | refine blk_alloc ?_ _)); exact BK150.out) hb); have n1_ := Aside0.mk (blk_below (g := gb151) (o := .cells #[.int .i64 x152000_3, .int .i64 x152001_3, .int .i64 x152002_3] 35 (0, 0)) (by (with_reducible repeat (first | refine blk_drewN ?_ _ | refine blk_drew ?_ | refine blk_alloc ?_ _)); exact BK151.out) hb); have n2_ := Aside0.mk (blk_below (g := gb156) (o := .cells #[.int .i64 ((rd_T38 l1 x51_3).f0), .int .i64 ((rd_T38 l1 x51_3).f1)] 38 (0, 0)) (by (with_reducible repeat (first | refine blk_drewN ?_ _ | refine blk_drew ?_ | refine blk_alloc ?_ _)); exact BK156.out) hb); have n3_ := Aside0.mk (blk_below (g := gb157) (o := .cells #[.int .i64 0, .int .i64 0, .int .i64 0] 25 (0, 0)) (by (with_reducible repeat (first | refine blk_drewN ?_ _ | refine blk_drew ?_ | refine blk_alloc ?_ _)); exact BK157.out) hb); have n4_ := Aside0.mk (blk_below (g := gb158) (o := .cells #[.int .i64 0, .int .i64 0, .int .i64 0] 35 (0, 0)) (by (with_reducible repeat (first | refine blk_drewN ?_ _ | refine blk_drew ?_ | refine blk_alloc ?_ _)); exact BK158.out) hb); have n5_ := Aside0.mk (below_step (by repeat (first | (with_reducible first | exact HB.out | apply below_alloc | apply pw_below_drewN | apply below_drew1 | refine below_set ?_ GE150.out | refine below_set ?_ GE151.out | refine below_set ?_ GE156.out | refine below_set ?_ GE157.out | refine below_set ?_ GE158.out) | exact HB.out)) hb); clear BK150; clear BK151; clear BK156; clear BK157; clear BK158; clear HB; have BK150 := n0_; have BK151 := n1_; have BK156 := n2_; have BK157 := n3_; have BK158 := n4_; have HB := n5_; clear n0_ n1_ n2_ n3_ n4_ n5_; (try clear hb); (try clear hb2); (try clear hk); (try clear hi); have hnb111 := NB157_151.out; have hnc111 := NB151_157.out; have hnb112 := NB157_158.out; have hnc112 := NB158_157.out; have hcz113_0 : w110.cell? ⟨gb157, 0, none⟩ = some (.int .i64 0) := (blk_cell BK157.out 0).trans rfl; have hcz113_1 : w110.cell? ⟨gb157, 1, none⟩ = some (.int .i64 0) := (blk_cell BK157.out 1).trans rfl; have hcz113_2 : w110.cell? ⟨gb157, 2, none⟩ = some (.int .i64 0) := (blk_cell BK157.out 2).trans rfl; have hfz113_0 := blk_frozen BK157.out 0; have hfz113_1 := blk_frozen BK157.out 1; have hfz113_2 := blk_frozen BK157.out 2; have hnb114 := NB151_158.out; have hnc114 := NB158_151.out; have hcz115_0 : w110.cell? ⟨gb151, 0, none⟩ = some (.int .i64 x152000_3) := (blk_cell BK151.out 0).trans rfl; have hcz115_1 : w110.cell? ⟨gb151, 1, none⟩ = some (.int .i64 x152001_3) := (blk_cell BK151.out 1).trans rfl; have hcz115_2 : w110.cell? ⟨gb151, 2, none⟩ = some (.int .i64 x152002_3) := (blk_cell BK151.out 2).trans rfl; have hfz115_0 := blk_frozen BK151.out 0; have hfz115_1 := blk_frozen BK151.out 1; have hfz115_2 := blk_frozen BK151.out 2; have hcz116_0 : w110.cell? ⟨gb156, 0, none⟩ = some (.int .i64 ((rd_T38 l1 x51_3).f0)) := (blk_cell BK156.out 0).trans rfl; have hcz116_1 : w110.cell? ⟨gb156, 1, none⟩ = some (.int .i64 ((rd_T38 l1 x51_3).f1)) := (blk_cell BK156.out 1).trans rfl; have hfz116_0 := blk_frozen BK156.out 0; have hfz116_1 := blk_frozen BK156.out 1) | ((with_reducible refine gate_callee (f := 19) rfl ?_); refine goesL_ (some 110) rfl rfl Try.func19 (by kernel_rfl) rfl #[.agg #[.int .i64 x152000_3, .int .i64 x152001_3, .int .i64 x152002_3], .int .i64 ((rd_T38 l1 x51_3).f1)] rfl (by (try simp only [List.map_toArray, List.map_cons, List.map_nil]); first | done | rfl | (simp only [List.length_drop, List.length_take]; rfl)) ?_; (with_reducible refine (bywashref1_Shift.calls x152000_3 x152001_3 x152002_3 ((rd_T38 l1 x51_3).f1) t179 t180 t181 t182 _ A100.out).mono ?_); rintro e w117 ⟨rfl, hb⟩; refine ⟨_, rfl, ?_⟩; have n0_ := Aside0.mk (blk_below (g := gb150) (o := .cells #[.int .i64 x151000_3, .int .i64 x151001_3, .int .i64 x151002_3] 25 (0, 0)) (by (with_reducible repeat (first | refine blk_drewN ?_ _ | refine blk_drew ?_ | refine blk_alloc ?_ _)); refine blk_far ?_ NB150_157.out _; (with_reducible repeat (first | refine blk_drewN ?_ _ | refine blk_drew ?_ | refine blk_alloc ?_ _)); refine blk_far ?_ NB150_157.out _; (with_reducible repeat (first | refine blk_drewN ?_ _ | refine blk_drew ?_ | refine blk_alloc ?_ _)); refine blk_far ?_ NB150_157.out _; (with_reducible repeat (first | refine blk_drewN ?_ _ | refine blk_drew ?_ | refine blk_alloc ?_ _)); exact BK150.out) hb); have n1_ := Aside0.mk (blk_below (g := gb151) (o := .cells #[.int .i64 x152000_3, .int .i64 x152001_3, .int .i64 x152002_3] 35 (0, 0)) (by (with_reducible repeat (first | refine blk_drewN ?_ _ | refine blk_drew ?_ | refine blk_alloc ?_ _)); refine blk_far ?_ NB151_157.out _; (with_reducible repeat (first | refine blk_drewN ?_ _ | refine blk_drew ?_ | refine blk_alloc ?_ _)); refine blk_far ?_ NB151_157.out _; (with_reducible repeat (first | refine blk_drewN ?_ _ | refine blk_drew ?_ | refine blk_alloc ?_ _)); refine blk_far ?_ NB151_157.out _; (with_reducible repeat (first | refine blk_drewN ?_ _ | refine blk_drew ?_ | refine blk_alloc ?_ _)); exact BK151.out) hb); have n2_ := Aside0.mk (blk_below (g := gb156) (o := .cells #[.int .i64 ((rd_T38 l1 x51_3).f0), .int .i64 ((rd_T38 l1 x51_3).f1)] 38 (0, 0)) (by (with_reducible repeat (first | refine blk_drewN ?_ _ | refine blk_drew ?_ | refine blk_alloc ?_ _)); refine blk_far ?_ NB156_157.out _; (with_reducible repeat (first | refine blk_drewN ?_ _ | refine blk_drew ?_ | refine blk_alloc ?_ _)); refine blk_far ?_ NB156_157.out _; (with_reducible repeat (first | refine blk_drewN ?_ _ | refine blk_drew ?_ | refine blk_alloc ?_ _)); refine blk_far ?_ NB156_157.out _; (with_reducible repeat (first | refine blk_drewN ?_ _ | refine blk_drew ?_ | refine blk_alloc ?_ _)); exact BK156.out) hb); have n3_ := Aside0.mk (blk_below (g := gb157) (o := .cells #[.int .i64 t175, .int .i64 t176, .int .i64 t177] 25 (0, 0)) (by (with_reducible repeat (first | refine blk_drewN ?_ _ | refine blk_drew ?_ | refine blk_alloc ?_ _)); refine blk_put (cs := #[.int .i64 t175, .int .i64 t176, .int .i64 0]) ?_ 2 _ rfl; (with_reducible repeat (first | refine blk_drewN ?_ _ | refine blk_drew ?_ | refine blk_alloc ?_ _)); refine blk_put (cs := #[.int .i64 t175, .int .i64 0, .int .i64 0]) ?_ 1 _ rfl; (with_reducible repeat (first | refine blk_drewN ?_ _ | refine blk_drew ?_ | refine blk_alloc ?_ _)); refine blk_put (cs := #[.int .i64 0, .int .i64 0, .int .i64 0]) ?_ 0 _ rfl; (with_reducible repeat (first | refine blk_drewN ?_ _ | refine blk_drew ?_ | refine blk_alloc ?_ _)); exact BK157.out) hb); have n4_ := Aside0.mk (blk_below (g := gb158) (o := .cells #[.int .i64 0, .int .i64 0, .int .i64 0] 35 (0, 0)) (by (with_reducible repeat (first | refine blk_drewN ?_ _ | refine blk_drew ?_ | refine blk_alloc ?_ _)); refine blk_far ?_ NB158_157.out _; (with_reducible repeat (first | refine blk_drewN ?_ _ | refine blk_drew ?_ | refine blk_alloc ?_ _)); refine blk_far ?_ NB158_157.out _; (with_reducible repeat (first | refine blk_drewN ?_ _ | refine blk_drew ?_ | refine blk_alloc ?_ _)); refine blk_far ?_ NB158_157.out _; (with_reducible repeat (first | refine blk_drewN ?_ _ | refine blk_drew ?_ | refine blk_alloc ?_ _)); exact BK158.out) hb); have n5_ := Aside0.mk (below_step (by repeat (first | (with_reducible first | exact HB.out | apply below_alloc | apply pw_below_drewN | apply below_drew1 | refine below_set ?_ GE150.out | refine below_set ?_ GE151.out | refine below_set ?_ GE156.out | refine below_set ?_ GE157.out | refine below_set ?_ GE158.out) | exact HB.out)) hb); clear BK150; clear BK151; clear BK156; clear BK157; clear BK158; clear HB; have BK150 := n0_; have BK151 := n1_; have BK156 := n2_; have BK157 := n3_; have BK158 := n4_; have HB := n5_; clear n0_ n1_ n2_ n3_ n4_ n5_; (try clear hb); (try clear hb2); (try clear hk); (try clear hi); have hcz118_0 : w117.cell? ⟨gb158, 0, none⟩ = some (.int .i64 0) := (blk_cell BK158.out 0).trans rfl; have hcz118_1 : w117.cell? ⟨gb158, 1, none⟩ = some (.int .i64 0) := (blk_cell BK158.out 1).trans rfl; have hcz118_2 : w117.cell? ⟨gb158, 2, none⟩ = some (.int .i64 0) := (blk_cell BK158.out 2).trans rfl; have hfz118_0 := blk_frozen BK158.out 0; have hfz118_1 := blk_frozen BK158.out 1; have hfz118_2 := blk_frozen BK158.out 2))
                                          go_meet
                                          case rel => exact ⟨_, (t178), (t182), (0), (0), (t175), (t176), (t177), (t179), (t180), (t181), (by first | rfl | (simp; done) | (simp [*]; done)), (by first | rfl | (simp; done) | (simp [*]; done)), (by first | rfl | (simp; done) | (simp [*]; done)), (by first | rfl | (simp; done) | (simp [*]; done)), H', ⟨by have := HJ2.out; have := HJ10.out; have := HK3.out; have := HJ34.out; first | omega | exact Nat.le_refl _⟩, ⟨by (with_reducible repeat (first | refine blk_drewN ?_ _ | refine blk_drew ?_ | refine blk_alloc ?_ _)); refine blk_far ?_ NB150_158.out _; (with_reducible repeat (first | refine blk_drewN ?_ _ | refine blk_drew ?_ | refine blk_alloc ?_ _)); refine blk_far ?_ NB150_158.out _; (with_reducible repeat (first | refine blk_drewN ?_ _ | refine blk_drew ?_ | refine blk_alloc ?_ _)); refine blk_far ?_ NB150_158.out _; (with_reducible repeat (first | refine blk_drewN ?_ _ | refine blk_drew ?_ | refine blk_alloc ?_ _)); exact BK150.out⟩, ⟨by (with_reducible repeat (first | refine blk_drewN ?_ _ | refine blk_drew ?_ | refine blk_alloc ?_ _)); refine blk_far ?_ NB151_158.out _; (with_reducible repeat (first | refine blk_drewN ?_ _ | refine blk_drew ?_ | refine blk_alloc ?_ _)); refine blk_far ?_ NB151_158.out _; (with_reducible repeat (first | refine blk_drewN ?_ _ | refine blk_drew ?_ | refine blk_alloc ?_ _)); refine blk_far ?_ NB151_158.out _; (with_reducible repeat (first | refine blk_drewN ?_ _ | refine blk_drew ?_ | refine blk_alloc ?_ _)); exact BK151.out⟩, ⟨by (with_reducible repeat (first | refine blk_drewN ?_ _ | refine blk_drew ?_ | refine blk_alloc ?_ _)); refine blk_far ?_ NB156_158.out _; (with_reducible repeat (first | refine blk_drewN ?_ _ | refine blk_drew ?_ | refine blk_alloc ?_ _)); refine blk_far ?_ NB156_158.out _; (with_reducible repeat (first | refine blk_drewN ?_ _ | refine blk_drew ?_ | refine blk_alloc ?_ _)); refine blk_far ?_ NB156_158.out _; (with_reducible repeat (first | refine blk_drewN ?_ _ | refine blk_drew ?_ | refine blk_alloc ?_ _)); exact BK156.out⟩, ⟨by (with_reducible repeat (first | refine blk_drewN ?_ _ | refine blk_drew ?_ | refine blk_alloc ?_ _)); refine blk_far ?_ NB157_158.out _; (with_reducible repeat (first | refine blk_drewN ?_ _ | refine blk_drew ?_ | refine blk_alloc ?_ _)); refine blk_far ?_ NB157_158.out _; (with_reducible repeat (first | refine blk_drewN ?_ _ | refine blk_drew ?_ | refine blk_alloc ?_ _)); refine blk_far ?_ NB157_158.out _; (with_reducible repeat (first | refine blk_drewN ?_ _ | refine blk_drew ?_ | refine blk_alloc ?_ _)); exact BK157.out⟩, ⟨by (with_reducible repeat (first | refine blk_drewN ?_ _ | refine blk_drew ?_ | refine blk_alloc ?_ _)); refine blk_put (cs := #[.int .i64 t179, .int .i64 t180, .int .i64 0]) ?_ 2 _ rfl; (with_reducible repeat (first | refine blk_drewN ?_ _ | refine blk_drew ?_ | refine blk_alloc ?_ _)); refine blk_put (cs := #[.int .i64 t179, .int .i64 0, .int .i64 0]) ?_ 1 _ rfl; (with_reducible repeat (first | refine blk_drewN ?_ _ | refine blk_drew ?_ | refine blk_alloc ?_ _)); refine blk_put (cs := #[.int .i64 0, .int .i64 0, .int .i64 0]) ?_ 0 _ rfl; (with_reducible repeat (first | refine blk_drewN ?_ _ | refine blk_drew ?_ | refine blk_alloc ?_ _)); exact BK158.out⟩, ⟨by repeat (first | (with_reducible first | exact HB.out | apply below_alloc | apply pw_below_drewN | apply below_drew1 | refine below_set ?_ GE150.out | refine below_set ?_ GE151.out | refine below_set ?_ GE156.out | refine below_set ?_ GE157.out | refine below_set ?_ GE158.out) | exact HB.out)⟩⟩
                                        · rw [if_neg c98] at H
                                          have c98b0 : (((rd_T38 l1 x51_3).f0) == 3) = false := beq_eq_false_iff_ne.mpr c98
                                          have c98b1 : (((rd_T38 l1 x51_3).f0) != 3) = true := bne_iff_ne.mpr c98
                                          by_cases c119 : ((rd_T38 l1 x51_3).f0) = 4
                                          · rw [if_pos c119] at H
                                            have c119b0 : (((rd_T38 l1 x51_3).f0) == 4) = true := beq_iff_eq.mpr c119
                                            have c119b1 : (((rd_T38 l1 x51_3).f0) != 4) = false := bne_eq_false_iff_eq.mpr c119
                                            clear c119
                                            replace H := Option.bind_eq_some_iff.mp H
                                            obtain ⟨⟨t183, t184, t185, t186⟩, A1200, H⟩ := H
                                            replace H : ((bywashref1_Take.f x152000_3 x152001_3 x152002_3 ((rd_T38 l1 x51_3).f1)).bind fun bt187 => (bywashlaw12_WindowPlays.j4 kj34 t186 bt187.2.2.2 0 0 l1 (l1.length : Int) x51_3 t183 t184 t185 bt187.1 bt187.2.1 bt187.2.2.1)) = some r := H
                                            have A120 := Aside0.mk A1200
                                            clear A1200
                                            replace H := Option.bind_eq_some_iff.mp H
                                            obtain ⟨⟨t187, t188, t189, t190⟩, A1210, H⟩ := H
                                            replace H : (bywashlaw12_WindowPlays.j4 kj34 t186 t190 0 0 l1 (l1.length : Int) x51_3 t183 t184 t185 t187 t188 t189) = some r := H
                                            have A121 := Aside0.mk A1210
                                            clear A1210
                                            have H' := Aside0.mk H
                                            clear H
                                            have hnb122 := NB150_151.out
                                            have hnc122 := NB151_150.out
                                            have hnb123 := NB150_156.out
                                            have hnc123 := NB156_150.out
                                            have hnb124 := NB150_157.out
                                            have hnc124 := NB157_150.out
                                            have hnb125 := NB150_158.out
                                            have hnc125 := NB158_150.out
                                            have hcz126_0 : w50.cell? ⟨gb150, 0, none⟩ = some (.int .i64 x151000_3) := (blk_cell BK150.out 0).trans rfl
                                            have hcz126_1 : w50.cell? ⟨gb150, 1, none⟩ = some (.int .i64 x151001_3) := (blk_cell BK150.out 1).trans rfl
                                            have hcz126_2 : w50.cell? ⟨gb150, 2, none⟩ = some (.int .i64 x151002_3) := (blk_cell BK150.out 2).trans rfl
                                            have hfz126_0 := blk_frozen BK150.out 0
                                            have hfz126_1 := blk_frozen BK150.out 1
                                            have hfz126_2 := blk_frozen BK150.out 2
                                            have hnb127 := NB156_151.out
                                            have hnc127 := NB151_156.out
                                            have hnb128 := NB156_157.out
                                            have hnc128 := NB157_156.out
                                            have hnb129 := NB156_158.out
                                            have hnc129 := NB158_156.out
                                            have hcz130_0 : w50.cell? ⟨gb156, 0, none⟩ = some (.int .i64 ((rd_T38 l1 x51_3).f0)) := (blk_cell BK156.out 0).trans rfl
                                            have hcz130_1 : w50.cell? ⟨gb156, 1, none⟩ = some (.int .i64 ((rd_T38 l1 x51_3).f1)) := (blk_cell BK156.out 1).trans rfl
                                            have hfz130_0 := blk_frozen BK156.out 0
                                            have hfz130_1 := blk_frozen BK156.out 1
                                            go_wp2_with (first | ((with_reducible refine gate_callee (f := 11) rfl ?_); refine goesL_ (some 119) rfl rfl Try.func11 (by kernel_rfl) rfl #[.agg #[.int .i64 x151000_3, .int .i64 x151001_3, .int .i64 x151002_3], .int .i64 ((rd_T38 l1 x51_3).f1)] rfl (by (try simp only [List.map_toArray, List.map_cons, List.map_nil]); first | done | rfl | (simp only [List.length_drop, List.length_take]; rfl)) ?_; (with_reducible refine (window_Spend.calls x151000_3 x151001_3 x151002_3 ((rd_T38 l1 x51_3).f1) t183 t184 t185 t186 _ A120.out).mono ?_); rintro e w131 ⟨rfl, hb⟩; refine ⟨_, rfl, ?_⟩; have n0_ := Aside0.mk (blk_below (g := gb150) (o := .cells #[.int .i64 x151000_3, .int .i64 x151001_3, .int .i64 x151002_3] 25 (0, 0)) (by (with_reducible repeat (first | refine blk_drewN ?_ _ | refine blk_drew ?_ | refine blk_alloc ?_ _)); exact BK150.out) hb); have n1_ := Aside0.mk (blk_below (g := gb151) (o := .cells #[.int .i64 x152000_3, .int .i64 x152001_3, .int .i64 x152002_3] 35 (0, 0)) (by (with_reducible repeat (first | refine blk_drewN ?_ _ | refine blk_drew ?_ | refine blk_alloc ?_ _)); exact BK151.out) hb); have n2_ := Aside0.mk (blk_below (g := gb156) (o := .cells #[.int .i64 ((rd_T38 l1 x51_3).f0), .int .i64 ((rd_T38 l1 x51_3).f1)] 38 (0, 0)) (by (with_reducible repeat (first | refine blk_drewN ?_ _ | refine blk_drew ?_ | refine blk_alloc ?_ _)); exact BK156.out) hb); have n3_ := Aside0.mk (blk_below (g := gb157) (o := .cells #[.int .i64 0, .int .i64 0, .int .i64 0] 25 (0, 0)) (by (with_reducible repeat (first | refine blk_drewN ?_ _ | refine blk_drew ?_ | refine blk_alloc ?_ _)); exact BK157.out) hb); have n4_ := Aside0.mk (blk_below (g := gb158) (o := .cells #[.int .i64 0, .int .i64 0, .int .i64 0] 35 (0, 0)) (by (with_reducible repeat (first | refine blk_drewN ?_ _ | refine blk_drew ?_ | refine blk_alloc ?_ _)); exact BK158.out) hb); have n5_ := Aside0.mk (below_step (by repeat (first | (with_reducible first | exact HB.out | apply below_alloc | apply pw_below_drewN | apply below_drew1 | refine below_set ?_ GE150.out | refine below_set ?_ GE151.out | refine below_set ?_ GE156.out | refine below_set ?_ GE157.out | refine below_set ?_ GE158.out) | exact HB.out)) hb); clear BK150; clear BK151; clear BK156; clear BK157; clear BK158; clear HB; have BK150 := n0_; have BK151 := n1_; have BK156 := n2_; have BK157 := n3_; have BK158 := n4_; have HB := n5_; clear n0_ n1_ n2_ n3_ n4_ n5_; (try clear hb); (try clear hb2); (try clear hk); (try clear hi); have hnb132 := NB157_151.out; have hnc132 := NB151_157.out; have hnb133 := NB157_158.out; have hnc133 := NB158_157.out; have hcz134_0 : w131.cell? ⟨gb157, 0, none⟩ = some (.int .i64 0) := (blk_cell BK157.out 0).trans rfl; have hcz134_1 : w131.cell? ⟨gb157, 1, none⟩ = some (.int .i64 0) := (blk_cell BK157.out 1).trans rfl; have hcz134_2 : w131.cell? ⟨gb157, 2, none⟩ = some (.int .i64 0) := (blk_cell BK157.out 2).trans rfl; have hfz134_0 := blk_frozen BK157.out 0; have hfz134_1 := blk_frozen BK157.out 1; have hfz134_2 := blk_frozen BK157.out 2; have hnb135 := NB151_158.out; have hnc135 := NB158_151.out; have hcz136_0 : w131.cell? ⟨gb151, 0, none⟩ = some (.int .i64 x152000_3) := (blk_cell BK151.out 0).trans rfl; have hcz136_1 : w131.cell? ⟨gb151, 1, none⟩ = some (.int .i64 x152001_3) := (blk_cell BK151.out 1).trans rfl; have hcz136_2 : w131.cell? ⟨gb151, 2, none⟩ = some (.int .i64 x152002_3) := (blk_cell BK151.out 2).trans rfl; have hfz136_0 := blk_frozen BK151.out 0; have hfz136_1 := blk_frozen BK151.out 1; have hfz136_2 := blk_frozen BK151.out 2; have hcz137_0 : w131.cell? ⟨gb156, 0, none⟩ = some (.int .i64 ((rd_T38 l1 x51_3).f0)) := (blk_cell BK156.out 0).trans rfl; have hcz137_1 : w131.cell? ⟨gb156, 1, none⟩ = some (.int .i64 ((rd_T38 l1 x51_3).f1)) := (blk_cell BK156.out 1).trans rfl; have hfz137_0 := blk_frozen BK156.out 0; have hfz137_1 := blk_frozen BK156.out 1) | ((with_reducible refine gate_callee (f := 17) rfl ?_); refine goesL_ (some 126) rfl rfl Try.func17 (by kernel_rfl) rfl #[.agg #[.int .i64 x152000_3, .int .i64 x152001_3, .int .i64 x152002_3], .int .i64 ((rd_T38 l1 x51_3).f1)] rfl (by (try simp only [List.map_toArray, List.map_cons, List.map_nil]); first | done | rfl | (simp only [List.length_drop, List.length_take]; rfl)) ?_; (with_reducible refine (bywashref1_Take.calls x152000_3 x152001_3 x152002_3 ((rd_T38 l1 x51_3).f1) t187 t188 t189 t190 _ A121.out).mono ?_); rintro e w138 ⟨rfl, hb⟩; refine ⟨_, rfl, ?_⟩; have n0_ := Aside0.mk (blk_below (g := gb150) (o := .cells #[.int .i64 x151000_3, .int .i64 x151001_3, .int .i64 x151002_3] 25 (0, 0)) (by (with_reducible repeat (first | refine blk_drewN ?_ _ | refine blk_drew ?_ | refine blk_alloc ?_ _)); refine blk_far ?_ NB150_157.out _; (with_reducible repeat (first | refine blk_drewN ?_ _ | refine blk_drew ?_ | refine blk_alloc ?_ _)); refine blk_far ?_ NB150_157.out _; (with_reducible repeat (first | refine blk_drewN ?_ _ | refine blk_drew ?_ | refine blk_alloc ?_ _)); refine blk_far ?_ NB150_157.out _; (with_reducible repeat (first | refine blk_drewN ?_ _ | refine blk_drew ?_ | refine blk_alloc ?_ _)); exact BK150.out) hb); have n1_ := Aside0.mk (blk_below (g := gb151) (o := .cells #[.int .i64 x152000_3, .int .i64 x152001_3, .int .i64 x152002_3] 35 (0, 0)) (by (with_reducible repeat (first | refine blk_drewN ?_ _ | refine blk_drew ?_ | refine blk_alloc ?_ _)); refine blk_far ?_ NB151_157.out _; (with_reducible repeat (first | refine blk_drewN ?_ _ | refine blk_drew ?_ | refine blk_alloc ?_ _)); refine blk_far ?_ NB151_157.out _; (with_reducible repeat (first | refine blk_drewN ?_ _ | refine blk_drew ?_ | refine blk_alloc ?_ _)); refine blk_far ?_ NB151_157.out _; (with_reducible repeat (first | refine blk_drewN ?_ _ | refine blk_drew ?_ | refine blk_alloc ?_ _)); exact BK151.out) hb); have n2_ := Aside0.mk (blk_below (g := gb156) (o := .cells #[.int .i64 ((rd_T38 l1 x51_3).f0), .int .i64 ((rd_T38 l1 x51_3).f1)] 38 (0, 0)) (by (with_reducible repeat (first | refine blk_drewN ?_ _ | refine blk_drew ?_ | refine blk_alloc ?_ _)); refine blk_far ?_ NB156_157.out _; (with_reducible repeat (first | refine blk_drewN ?_ _ | refine blk_drew ?_ | refine blk_alloc ?_ _)); refine blk_far ?_ NB156_157.out _; (with_reducible repeat (first | refine blk_drewN ?_ _ | refine blk_drew ?_ | refine blk_alloc ?_ _)); refine blk_far ?_ NB156_157.out _; (with_reducible repeat (first | refine blk_drewN ?_ _ | refine blk_drew ?_ | refine blk_alloc ?_ _)); exact BK156.out) hb); have n3_ := Aside0.mk (blk_below (g := gb157) (o := .cells #[.int .i64 t183, .int .i64 t184, .int .i64 t185] 25 (0, 0)) (by (with_reducible repeat (first | refine blk_drewN ?_ _ | refine blk_drew ?_ | refine blk_alloc ?_ _)); refine blk_put (cs := #[.int .i64 t183, .int .i64 t184, .int .i64 0]) ?_ 2 _ rfl; (with_reducible repeat (first | refine blk_drewN ?_ _ | refine blk_drew ?_ | refine blk_alloc ?_ _)); refine blk_put (cs := #[.int .i64 t183, .int .i64 0, .int .i64 0]) ?_ 1 _ rfl; (with_reducible repeat (first | refine blk_drewN ?_ _ | refine blk_drew ?_ | refine blk_alloc ?_ _)); refine blk_put (cs := #[.int .i64 0, .int .i64 0, .int .i64 0]) ?_ 0 _ rfl; (with_reducible repeat (first | refine blk_drewN ?_ _ | refine blk_drew ?_ | refine blk_alloc ?_ _)); exact BK157.out) hb); have n4_ := Aside0.mk (blk_below (g := gb158) (o := .cells #[.int .i64 0, .int .i64 0, .int .i64 0] 35 (0, 0)) (by (with_reducible repeat (first | refine blk_drewN ?_ _ | refine blk_drew ?_ | refine blk_alloc ?_ _)); refine blk_far ?_ NB158_157.out _; (with_reducible repeat (first | refine blk_drewN ?_ _ | refine blk_drew ?_ | refine blk_alloc ?_ _)); refine blk_far ?_ NB158_157.out _; (with_reducible repeat (first | refine blk_drewN ?_ _ | refine blk_drew ?_ | refine blk_alloc ?_ _)); refine blk_far ?_ NB158_157.out _; (with_reducible repeat (first | refine blk_drewN ?_ _ | refine blk_drew ?_ | refine blk_alloc ?_ _)); exact BK158.out) hb); have n5_ := Aside0.mk (below_step (by repeat (first | (with_reducible first | exact HB.out | apply below_alloc | apply pw_below_drewN | apply below_drew1 | refine below_set ?_ GE150.out | refine below_set ?_ GE151.out | refine below_set ?_ GE156.out | refine below_set ?_ GE157.out | refine below_set ?_ GE158.out) | exact HB.out)) hb); clear BK150; clear BK151; clear BK156; clear BK157; clear BK158; clear HB; have BK150 := n0_; have BK151 := n1_; have BK156 := n2_; have BK157 := n3_; have BK158 := n4_; have HB := n5_; clear n0_ n1_ n2_ n3_ n4_ n5_; (try clear hb); (try clear hb2); (try clear hk); (try clear hi); have hcz139_0 : w138.cell? ⟨gb158, 0, none⟩ = some (.int .i64 0) := (blk_cell BK158.out 0).trans rfl; have hcz139_1 : w138.cell? ⟨gb158, 1, none⟩ = some (.int .i64 0) := (blk_cell BK158.out 1).trans rfl; have hcz139_2 : w138.cell? ⟨gb158, 2, none⟩ = some (.int .i64 0) := (blk_cell BK158.out 2).trans rfl; have hfz139_0 := blk_frozen BK158.out 0; have hfz139_1 := blk_frozen BK158.out 1; have hfz139_2 := blk_frozen BK158.out 2))
                                            go_meet
                                            case rel => exact ⟨_, (t186), (t190), (0), (0), (t183), (t184), (t185), (t187), (t188), (t189), (by first | rfl | (simp; done) | (simp [*]; done)), (by first | rfl | (simp; done) | (simp [*]; done)), (by first | rfl | (simp; done) | (simp [*]; done)), (by first | rfl | (simp; done) | (simp [*]; done)), H', ⟨by have := HJ2.out; have := HJ10.out; have := HK3.out; have := HJ34.out; first | omega | exact Nat.le_refl _⟩, ⟨by (with_reducible repeat (first | refine blk_drewN ?_ _ | refine blk_drew ?_ | refine blk_alloc ?_ _)); refine blk_far ?_ NB150_158.out _; (with_reducible repeat (first | refine blk_drewN ?_ _ | refine blk_drew ?_ | refine blk_alloc ?_ _)); refine blk_far ?_ NB150_158.out _; (with_reducible repeat (first | refine blk_drewN ?_ _ | refine blk_drew ?_ | refine blk_alloc ?_ _)); refine blk_far ?_ NB150_158.out _; (with_reducible repeat (first | refine blk_drewN ?_ _ | refine blk_drew ?_ | refine blk_alloc ?_ _)); exact BK150.out⟩, ⟨by (with_reducible repeat (first | refine blk_drewN ?_ _ | refine blk_drew ?_ | refine blk_alloc ?_ _)); refine blk_far ?_ NB151_158.out _; (with_reducible repeat (first | refine blk_drewN ?_ _ | refine blk_drew ?_ | refine blk_alloc ?_ _)); refine blk_far ?_ NB151_158.out _; (with_reducible repeat (first | refine blk_drewN ?_ _ | refine blk_drew ?_ | refine blk_alloc ?_ _)); refine blk_far ?_ NB151_158.out _; (with_reducible repeat (first | refine blk_drewN ?_ _ | refine blk_drew ?_ | refine blk_alloc ?_ _)); exact BK151.out⟩, ⟨by (with_reducible repeat (first | refine blk_drewN ?_ _ | refine blk_drew ?_ | refine blk_alloc ?_ _)); refine blk_far ?_ NB156_158.out _; (with_reducible repeat (first | refine blk_drewN ?_ _ | refine blk_drew ?_ | refine blk_alloc ?_ _)); refine blk_far ?_ NB156_158.out _; (with_reducible repeat (first | refine blk_drewN ?_ _ | refine blk_drew ?_ | refine blk_alloc ?_ _)); refine blk_far ?_ NB156_158.out _; (with_reducible repeat (first | refine blk_drewN ?_ _ | refine blk_drew ?_ | refine blk_alloc ?_ _)); exact BK156.out⟩, ⟨by (with_reducible repeat (first | refine blk_drewN ?_ _ | refine blk_drew ?_ | refine blk_alloc ?_ _)); refine blk_far ?_ NB157_158.out _; (with_reducible repeat (first | refine blk_drewN ?_ _ | refine blk_drew ?_ | refine blk_alloc ?_ _)); refine blk_far ?_ NB157_158.out _; (with_reducible repeat (first | refine blk_drewN ?_ _ | refine blk_drew ?_ | refine blk_alloc ?_ _)); refine blk_far ?_ NB157_158.out _; (with_reducible repeat (first | refine blk_drewN ?_ _ | refine blk_drew ?_ | refine blk_alloc ?_ _)); exact BK157.out⟩, ⟨by (with_reducible repeat (first | refine blk_drewN ?_ _ | refine blk_drew ?_ | refine blk_alloc ?_ _)); refine blk_put (cs := #[.int .i64 t187, .int .i64 t188, .int .i64 0]) ?_ 2 _ rfl; (with_reducible repeat (first | refine blk_drewN ?_ _ | refine blk_drew ?_ | refine blk_alloc ?_ _)); refine blk_put (cs := #[.int .i64 t187, .int .i64 0, .int .i64 0]) ?_ 1 _ rfl; (with_reducible repeat (first | refine blk_drewN ?_ _ | refine blk_drew ?_ | refine blk_alloc ?_ _)); refine blk_put (cs := #[.int .i64 0, .int .i64 0, .int .i64 0]) ?_ 0 _ rfl; (with_reducible repeat (first | refine blk_drewN ?_ _ | refine blk_drew ?_ | refine blk_alloc ?_ _)); exact BK158.out⟩, ⟨by repeat (first | (with_reducible first | exact HB.out | apply below_alloc | apply pw_below_drewN | apply below_drew1 | refine below_set ?_ GE150.out | refine below_set ?_ GE151.out | refine below_set ?_ GE156.out | refine below_set ?_ GE157.out | refine below_set ?_ GE158.out) | exact HB.out)⟩⟩
                                          · rw [if_neg c119] at H
                                            have c119b0 : (((rd_T38 l1 x51_3).f0) == 4) = false := beq_eq_false_iff_ne.mpr c119
                                            have c119b1 : (((rd_T38 l1 x51_3).f0) != 4) = true := bne_iff_ne.mpr c119
                                            by_cases c140 : ((rd_T38 l1 x51_3).f0) = 5
                                            · rw [if_pos c140] at H
                                              have c140b0 : (((rd_T38 l1 x51_3).f0) == 5) = true := beq_iff_eq.mpr c140
                                              have c140b1 : (((rd_T38 l1 x51_3).f0) != 5) = false := bne_eq_false_iff_eq.mpr c140
                                              clear c140
                                              replace H := Option.bind_eq_some_iff.mp H
                                              obtain ⟨⟨t191, t192, t193, t194⟩, A1410, H⟩ := H
                                              replace H : ((bywashref1_Credit.f x152000_3 x152001_3 x152002_3 ((rd_T38 l1 x51_3).f1)).bind fun bt195 => (bywashlaw12_WindowPlays.j4 kj34 true true t194 bt195.2.2.2 l1 (l1.length : Int) x51_3 t191 t192 t193 bt195.1 bt195.2.1 bt195.2.2.1)) = some r := H
                                              have A141 := Aside0.mk A1410
                                              clear A1410
                                              replace H := Option.bind_eq_some_iff.mp H
                                              obtain ⟨⟨t195, t196, t197, t198⟩, A1420, H⟩ := H
                                              replace H : (bywashlaw12_WindowPlays.j4 kj34 true true t194 t198 l1 (l1.length : Int) x51_3 t191 t192 t193 t195 t196 t197) = some r := H
                                              have A142 := Aside0.mk A1420
                                              clear A1420
                                              have H' := Aside0.mk H
                                              clear H
                                              have hnb143 := NB150_151.out
                                              have hnc143 := NB151_150.out
                                              have hnb144 := NB150_156.out
                                              have hnc144 := NB156_150.out
                                              have hnb145 := NB150_157.out
                                              have hnc145 := NB157_150.out
                                              have hnb146 := NB150_158.out
                                              have hnc146 := NB158_150.out
                                              have hcz147_0 : w50.cell? ⟨gb150, 0, none⟩ = some (.int .i64 x151000_3) := (blk_cell BK150.out 0).trans rfl
                                              have hcz147_1 : w50.cell? ⟨gb150, 1, none⟩ = some (.int .i64 x151001_3) := (blk_cell BK150.out 1).trans rfl
                                              have hcz147_2 : w50.cell? ⟨gb150, 2, none⟩ = some (.int .i64 x151002_3) := (blk_cell BK150.out 2).trans rfl
                                              have hfz147_0 := blk_frozen BK150.out 0
                                              have hfz147_1 := blk_frozen BK150.out 1
                                              have hfz147_2 := blk_frozen BK150.out 2
                                              have hnb148 := NB156_151.out
                                              have hnc148 := NB151_156.out
                                              have hnb149 := NB156_157.out
                                              have hnc149 := NB157_156.out
                                              have hnb150 := NB156_158.out
                                              have hnc150 := NB158_156.out
                                              have hcz151_0 : w50.cell? ⟨gb156, 0, none⟩ = some (.int .i64 ((rd_T38 l1 x51_3).f0)) := (blk_cell BK156.out 0).trans rfl
                                              have hcz151_1 : w50.cell? ⟨gb156, 1, none⟩ = some (.int .i64 ((rd_T38 l1 x51_3).f1)) := (blk_cell BK156.out 1).trans rfl
                                              have hfz151_0 := blk_frozen BK156.out 0
                                              have hfz151_1 := blk_frozen BK156.out 1
                                              go_wp2_with (first | ((with_reducible refine gate_callee (f := 12) rfl ?_); refine goesL_ (some 135) rfl rfl Try.func12 (by kernel_rfl) rfl #[.agg #[.int .i64 x151000_3, .int .i64 x151001_3, .int .i64 x151002_3], .int .i64 ((rd_T38 l1 x51_3).f1)] rfl (by (try simp only [List.map_toArray, List.map_cons, List.map_nil]); first | done | rfl | (simp only [List.length_drop, List.length_take]; rfl)) ?_; (with_reducible refine (window_Credit.calls x151000_3 x151001_3 x151002_3 ((rd_T38 l1 x51_3).f1) t191 t192 t193 t194 _ A141.out).mono ?_); rintro e w152 ⟨rfl, hb⟩; refine ⟨_, rfl, ?_⟩; have n0_ := Aside0.mk (blk_below (g := gb150) (o := .cells #[.int .i64 x151000_3, .int .i64 x151001_3, .int .i64 x151002_3] 25 (0, 0)) (by (with_reducible repeat (first | refine blk_drewN ?_ _ | refine blk_drew ?_ | refine blk_alloc ?_ _)); exact BK150.out) hb); have n1_ := Aside0.mk (blk_below (g := gb151) (o := .cells #[.int .i64 x152000_3, .int .i64 x152001_3, .int .i64 x152002_3] 35 (0, 0)) (by (with_reducible repeat (first | refine blk_drewN ?_ _ | refine blk_drew ?_ | refine blk_alloc ?_ _)); exact BK151.out) hb); have n2_ := Aside0.mk (blk_below (g := gb156) (o := .cells #[.int .i64 ((rd_T38 l1 x51_3).f0), .int .i64 ((rd_T38 l1 x51_3).f1)] 38 (0, 0)) (by (with_reducible repeat (first | refine blk_drewN ?_ _ | refine blk_drew ?_ | refine blk_alloc ?_ _)); exact BK156.out) hb); have n3_ := Aside0.mk (blk_below (g := gb157) (o := .cells #[.int .i64 0, .int .i64 0, .int .i64 0] 25 (0, 0)) (by (with_reducible repeat (first | refine blk_drewN ?_ _ | refine blk_drew ?_ | refine blk_alloc ?_ _)); exact BK157.out) hb); have n4_ := Aside0.mk (blk_below (g := gb158) (o := .cells #[.int .i64 0, .int .i64 0, .int .i64 0] 35 (0, 0)) (by (with_reducible repeat (first | refine blk_drewN ?_ _ | refine blk_drew ?_ | refine blk_alloc ?_ _)); exact BK158.out) hb); have n5_ := Aside0.mk (below_step (by repeat (first | (with_reducible first | exact HB.out | apply below_alloc | apply pw_below_drewN | apply below_drew1 | refine below_set ?_ GE150.out | refine below_set ?_ GE151.out | refine below_set ?_ GE156.out | refine below_set ?_ GE157.out | refine below_set ?_ GE158.out) | exact HB.out)) hb); clear BK150; clear BK151; clear BK156; clear BK157; clear BK158; clear HB; have BK150 := n0_; have BK151 := n1_; have BK156 := n2_; have BK157 := n3_; have BK158 := n4_; have HB := n5_; clear n0_ n1_ n2_ n3_ n4_ n5_; (try clear hb); (try clear hb2); (try clear hk); (try clear hi); have hnb153 := NB157_151.out; have hnc153 := NB151_157.out; have hnb154 := NB157_158.out; have hnc154 := NB158_157.out; have hcz155_0 : w152.cell? ⟨gb157, 0, none⟩ = some (.int .i64 0) := (blk_cell BK157.out 0).trans rfl; have hcz155_1 : w152.cell? ⟨gb157, 1, none⟩ = some (.int .i64 0) := (blk_cell BK157.out 1).trans rfl; have hcz155_2 : w152.cell? ⟨gb157, 2, none⟩ = some (.int .i64 0) := (blk_cell BK157.out 2).trans rfl; have hfz155_0 := blk_frozen BK157.out 0; have hfz155_1 := blk_frozen BK157.out 1; have hfz155_2 := blk_frozen BK157.out 2; have hnb156 := NB151_158.out; have hnc156 := NB158_151.out; have hcz157_0 : w152.cell? ⟨gb151, 0, none⟩ = some (.int .i64 x152000_3) := (blk_cell BK151.out 0).trans rfl; have hcz157_1 : w152.cell? ⟨gb151, 1, none⟩ = some (.int .i64 x152001_3) := (blk_cell BK151.out 1).trans rfl; have hcz157_2 : w152.cell? ⟨gb151, 2, none⟩ = some (.int .i64 x152002_3) := (blk_cell BK151.out 2).trans rfl; have hfz157_0 := blk_frozen BK151.out 0; have hfz157_1 := blk_frozen BK151.out 1; have hfz157_2 := blk_frozen BK151.out 2; have hcz158_0 : w152.cell? ⟨gb156, 0, none⟩ = some (.int .i64 ((rd_T38 l1 x51_3).f0)) := (blk_cell BK156.out 0).trans rfl; have hcz158_1 : w152.cell? ⟨gb156, 1, none⟩ = some (.int .i64 ((rd_T38 l1 x51_3).f1)) := (blk_cell BK156.out 1).trans rfl; have hfz158_0 := blk_frozen BK156.out 0; have hfz158_1 := blk_frozen BK156.out 1) | ((with_reducible refine gate_callee (f := 20) rfl ?_); refine goesL_ (some 142) rfl rfl Try.func20 (by kernel_rfl) rfl #[.agg #[.int .i64 x152000_3, .int .i64 x152001_3, .int .i64 x152002_3], .int .i64 ((rd_T38 l1 x51_3).f1)] rfl (by (try simp only [List.map_toArray, List.map_cons, List.map_nil]); first | done | rfl | (simp only [List.length_drop, List.length_take]; rfl)) ?_; (with_reducible refine (bywashref1_Credit.calls x152000_3 x152001_3 x152002_3 ((rd_T38 l1 x51_3).f1) t195 t196 t197 t198 _ A142.out).mono ?_); rintro e w159 ⟨rfl, hb⟩; refine ⟨_, rfl, ?_⟩; have n0_ := Aside0.mk (blk_below (g := gb150) (o := .cells #[.int .i64 x151000_3, .int .i64 x151001_3, .int .i64 x151002_3] 25 (0, 0)) (by (with_reducible repeat (first | refine blk_drewN ?_ _ | refine blk_drew ?_ | refine blk_alloc ?_ _)); refine blk_far ?_ NB150_157.out _; (with_reducible repeat (first | refine blk_drewN ?_ _ | refine blk_drew ?_ | refine blk_alloc ?_ _)); refine blk_far ?_ NB150_157.out _; (with_reducible repeat (first | refine blk_drewN ?_ _ | refine blk_drew ?_ | refine blk_alloc ?_ _)); refine blk_far ?_ NB150_157.out _; (with_reducible repeat (first | refine blk_drewN ?_ _ | refine blk_drew ?_ | refine blk_alloc ?_ _)); exact BK150.out) hb); have n1_ := Aside0.mk (blk_below (g := gb151) (o := .cells #[.int .i64 x152000_3, .int .i64 x152001_3, .int .i64 x152002_3] 35 (0, 0)) (by (with_reducible repeat (first | refine blk_drewN ?_ _ | refine blk_drew ?_ | refine blk_alloc ?_ _)); refine blk_far ?_ NB151_157.out _; (with_reducible repeat (first | refine blk_drewN ?_ _ | refine blk_drew ?_ | refine blk_alloc ?_ _)); refine blk_far ?_ NB151_157.out _; (with_reducible repeat (first | refine blk_drewN ?_ _ | refine blk_drew ?_ | refine blk_alloc ?_ _)); refine blk_far ?_ NB151_157.out _; (with_reducible repeat (first | refine blk_drewN ?_ _ | refine blk_drew ?_ | refine blk_alloc ?_ _)); exact BK151.out) hb); have n2_ := Aside0.mk (blk_below (g := gb156) (o := .cells #[.int .i64 ((rd_T38 l1 x51_3).f0), .int .i64 ((rd_T38 l1 x51_3).f1)] 38 (0, 0)) (by (with_reducible repeat (first | refine blk_drewN ?_ _ | refine blk_drew ?_ | refine blk_alloc ?_ _)); refine blk_far ?_ NB156_157.out _; (with_reducible repeat (first | refine blk_drewN ?_ _ | refine blk_drew ?_ | refine blk_alloc ?_ _)); refine blk_far ?_ NB156_157.out _; (with_reducible repeat (first | refine blk_drewN ?_ _ | refine blk_drew ?_ | refine blk_alloc ?_ _)); refine blk_far ?_ NB156_157.out _; (with_reducible repeat (first | refine blk_drewN ?_ _ | refine blk_drew ?_ | refine blk_alloc ?_ _)); exact BK156.out) hb); have n3_ := Aside0.mk (blk_below (g := gb157) (o := .cells #[.int .i64 t191, .int .i64 t192, .int .i64 t193] 25 (0, 0)) (by (with_reducible repeat (first | refine blk_drewN ?_ _ | refine blk_drew ?_ | refine blk_alloc ?_ _)); refine blk_put (cs := #[.int .i64 t191, .int .i64 t192, .int .i64 0]) ?_ 2 _ rfl; (with_reducible repeat (first | refine blk_drewN ?_ _ | refine blk_drew ?_ | refine blk_alloc ?_ _)); refine blk_put (cs := #[.int .i64 t191, .int .i64 0, .int .i64 0]) ?_ 1 _ rfl; (with_reducible repeat (first | refine blk_drewN ?_ _ | refine blk_drew ?_ | refine blk_alloc ?_ _)); refine blk_put (cs := #[.int .i64 0, .int .i64 0, .int .i64 0]) ?_ 0 _ rfl; (with_reducible repeat (first | refine blk_drewN ?_ _ | refine blk_drew ?_ | refine blk_alloc ?_ _)); exact BK157.out) hb); have n4_ := Aside0.mk (blk_below (g := gb158) (o := .cells #[.int .i64 0, .int .i64 0, .int .i64 0] 35 (0, 0)) (by (with_reducible repeat (first | refine blk_drewN ?_ _ | refine blk_drew ?_ | refine blk_alloc ?_ _)); refine blk_far ?_ NB158_157.out _; (with_reducible repeat (first | refine blk_drewN ?_ _ | refine blk_drew ?_ | refine blk_alloc ?_ _)); refine blk_far ?_ NB158_157.out _; (with_reducible repeat (first | refine blk_drewN ?_ _ | refine blk_drew ?_ | refine blk_alloc ?_ _)); refine blk_far ?_ NB158_157.out _; (with_reducible repeat (first | refine blk_drewN ?_ _ | refine blk_drew ?_ | refine blk_alloc ?_ _)); exact BK158.out) hb); have n5_ := Aside0.mk (below_step (by repeat (first | (with_reducible first | exact HB.out | apply below_alloc | apply pw_below_drewN | apply below_drew1 | refine below_set ?_ GE150.out | refine below_set ?_ GE151.out | refine below_set ?_ GE156.out | refine below_set ?_ GE157.out | refine below_set ?_ GE158.out) | exact HB.out)) hb); clear BK150; clear BK151; clear BK156; clear BK157; clear BK158; clear HB; have BK150 := n0_; have BK151 := n1_; have BK156 := n2_; have BK157 := n3_; have BK158 := n4_; have HB := n5_; clear n0_ n1_ n2_ n3_ n4_ n5_; (try clear hb); (try clear hb2); (try clear hk); (try clear hi); have hcz160_0 : w159.cell? ⟨gb158, 0, none⟩ = some (.int .i64 0) := (blk_cell BK158.out 0).trans rfl; have hcz160_1 : w159.cell? ⟨gb158, 1, none⟩ = some (.int .i64 0) := (blk_cell BK158.out 1).trans rfl; have hcz160_2 : w159.cell? ⟨gb158, 2, none⟩ = some (.int .i64 0) := (blk_cell BK158.out 2).trans rfl; have hfz160_0 := blk_frozen BK158.out 0; have hfz160_1 := blk_frozen BK158.out 1; have hfz160_2 := blk_frozen BK158.out 2))
                                              go_meet
                                              case rel => exact ⟨_, (true), (true), (t194), (t198), (t191), (t192), (t193), (t195), (t196), (t197), (by first | rfl | (simp; done) | (simp [*]; done)), (by first | rfl | (simp; done) | (simp [*]; done)), (by first | rfl | (simp; done) | (simp [*]; done)), (by first | rfl | (simp; done) | (simp [*]; done)), H', ⟨by have := HJ2.out; have := HJ10.out; have := HK3.out; have := HJ34.out; first | omega | exact Nat.le_refl _⟩, ⟨by (with_reducible repeat (first | refine blk_drewN ?_ _ | refine blk_drew ?_ | refine blk_alloc ?_ _)); refine blk_far ?_ NB150_158.out _; (with_reducible repeat (first | refine blk_drewN ?_ _ | refine blk_drew ?_ | refine blk_alloc ?_ _)); refine blk_far ?_ NB150_158.out _; (with_reducible repeat (first | refine blk_drewN ?_ _ | refine blk_drew ?_ | refine blk_alloc ?_ _)); refine blk_far ?_ NB150_158.out _; (with_reducible repeat (first | refine blk_drewN ?_ _ | refine blk_drew ?_ | refine blk_alloc ?_ _)); exact BK150.out⟩, ⟨by (with_reducible repeat (first | refine blk_drewN ?_ _ | refine blk_drew ?_ | refine blk_alloc ?_ _)); refine blk_far ?_ NB151_158.out _; (with_reducible repeat (first | refine blk_drewN ?_ _ | refine blk_drew ?_ | refine blk_alloc ?_ _)); refine blk_far ?_ NB151_158.out _; (with_reducible repeat (first | refine blk_drewN ?_ _ | refine blk_drew ?_ | refine blk_alloc ?_ _)); refine blk_far ?_ NB151_158.out _; (with_reducible repeat (first | refine blk_drewN ?_ _ | refine blk_drew ?_ | refine blk_alloc ?_ _)); exact BK151.out⟩, ⟨by (with_reducible repeat (first | refine blk_drewN ?_ _ | refine blk_drew ?_ | refine blk_alloc ?_ _)); refine blk_far ?_ NB156_158.out _; (with_reducible repeat (first | refine blk_drewN ?_ _ | refine blk_drew ?_ | refine blk_alloc ?_ _)); refine blk_far ?_ NB156_158.out _; (with_reducible repeat (first | refine blk_drewN ?_ _ | refine blk_drew ?_ | refine blk_alloc ?_ _)); refine blk_far ?_ NB156_158.out _; (with_reducible repeat (first | refine blk_drewN ?_ _ | refine blk_drew ?_ | refine blk_alloc ?_ _)); exact BK156.out⟩, ⟨by (with_reducible repeat (first | refine blk_drewN ?_ _ | refine blk_drew ?_ | refine blk_alloc ?_ _)); refine blk_far ?_ NB157_158.out _; (with_reducible repeat (first | refine blk_drewN ?_ _ | refine blk_drew ?_ | refine blk_alloc ?_ _)); refine blk_far ?_ NB157_158.out _; (with_reducible repeat (first | refine blk_drewN ?_ _ | refine blk_drew ?_ | refine blk_alloc ?_ _)); refine blk_far ?_ NB157_158.out _; (with_reducible repeat (first | refine blk_drewN ?_ _ | refine blk_drew ?_ | refine blk_alloc ?_ _)); exact BK157.out⟩, ⟨by (with_reducible repeat (first | refine blk_drewN ?_ _ | refine blk_drew ?_ | refine blk_alloc ?_ _)); refine blk_put (cs := #[.int .i64 t195, .int .i64 t196, .int .i64 0]) ?_ 2 _ rfl; (with_reducible repeat (first | refine blk_drewN ?_ _ | refine blk_drew ?_ | refine blk_alloc ?_ _)); refine blk_put (cs := #[.int .i64 t195, .int .i64 0, .int .i64 0]) ?_ 1 _ rfl; (with_reducible repeat (first | refine blk_drewN ?_ _ | refine blk_drew ?_ | refine blk_alloc ?_ _)); refine blk_put (cs := #[.int .i64 0, .int .i64 0, .int .i64 0]) ?_ 0 _ rfl; (with_reducible repeat (first | refine blk_drewN ?_ _ | refine blk_drew ?_ | refine blk_alloc ?_ _)); exact BK158.out⟩, ⟨by repeat (first | (with_reducible first | exact HB.out | apply below_alloc | apply pw_below_drewN | apply below_drew1 | refine below_set ?_ GE150.out | refine below_set ?_ GE151.out | refine below_set ?_ GE156.out | refine below_set ?_ GE157.out | refine below_set ?_ GE158.out) | exact HB.out)⟩⟩
                                            · rw [if_neg c140] at H
                                              have c140b0 : (((rd_T38 l1 x51_3).f0) == 5) = false := beq_eq_false_iff_ne.mpr c140
                                              have c140b1 : (((rd_T38 l1 x51_3).f0) != 5) = true := bne_iff_ne.mpr c140
                                              have H' := Aside0.mk H
                                              clear H
                                              go_wp2
                                              go_roundg kj34
                                              case measure => have := HJ2.out; have := HJ10.out; have := HK3.out; have := HJ34.out; omega
                                              case rel => exact ⟨(wrap64 (x51_3 + 1)), (x151000_3), (x151001_3), (x151002_3), (x152000_3), (x152001_3), (x152002_3), (by first | rfl | (simp; done) | (simp [*]; done)), H', ⟨by have := HJ2.out; have := HJ10.out; have := HK3.out; have := HJ34.out; omega⟩, ⟨by (with_reducible repeat (first | refine blk_drewN ?_ _ | refine blk_drew ?_ | refine blk_alloc ?_ _)); exact BK150.out⟩, ⟨by (with_reducible repeat (first | refine blk_drewN ?_ _ | refine blk_drew ?_ | refine blk_alloc ?_ _)); exact BK151.out⟩, ⟨by repeat (first | (with_reducible first | exact HB.out | apply below_alloc | apply pw_below_drewN | apply below_drew1 | refine below_set ?_ GE150.out | refine below_set ?_ GE151.out | refine below_set ?_ GE156.out | refine below_set ?_ GE157.out | refine below_set ?_ GE158.out) | exact HB.out)⟩⟩
                                  case rest =>
                                    clear HC48
                                    try clear c1
                                    try clear p1
                                    try clear q1
                                    try clear hx1
                                    try clear c2
                                    try clear p2
                                    try clear c3
                                    try clear c4
                                    try clear c4b0
                                    try clear c4b1
                                    try clear c5
                                    try clear c6
                                    try clear p6
                                    try clear c7
                                    try clear c8
                                    try clear c9
                                    try clear c10
                                    try clear c11
                                    try clear c12
                                    try clear c13
                                    try clear c14
                                    try clear c15
                                    try clear c15b0
                                    try clear p15
                                    try clear q15
                                    try clear hx15
                                    try clear c16
                                    try clear c17
                                    try clear c18
                                    try clear c19
                                    try clear c19b0
                                    try clear c20
                                    try clear c21
                                    try clear c27
                                    try clear c32
                                    try clear c32b0
                                    try clear c33
                                    try clear c33b0
                                    try clear c34
                                    try clear c34b0
                                    try clear c37
                                    try clear c38
                                    try clear c40
                                    try clear c40b0
                                    try clear c41
                                    try clear c42
                                    try clear c44
                                    try clear c45
                                    try clear c47
                                    try clear c51
                                    try clear c52
                                    try clear c53
                                    try clear c54
                                    try clear c56
                                    try clear c56b0
                                    try clear c56b1
                                    try clear c59
                                    try clear c60
                                    try clear c61
                                    try clear c62
                                    try clear c64
                                    try clear p64
                                    try clear c65
                                    try clear c66
                                    try clear c69
                                    try clear c70
                                    try clear c72
                                    try clear c77
                                    try clear c77b0
                                    try clear c77b1
                                    try clear c80
                                    try clear c81
                                    try clear c82
                                    try clear c83
                                    try clear c85
                                    try clear c86
                                    try clear c87
                                    try clear c90
                                    try clear c91
                                    try clear c93
                                    try clear c98
                                    try clear c98b0
                                    try clear c98b1
                                    try clear c101
                                    try clear c102
                                    try clear c103
                                    try clear c104
                                    try clear c106
                                    try clear c107
                                    try clear c108
                                    try clear c111
                                    try clear c112
                                    try clear c114
                                    try clear c119
                                    try clear c119b0
                                    try clear c119b1
                                    try clear c122
                                    try clear c123
                                    try clear c124
                                    try clear c125
                                    try clear c127
                                    try clear c128
                                    try clear c129
                                    try clear c132
                                    try clear c133
                                    try clear c135
                                    try clear c140
                                    try clear c140b0
                                    try clear c140b1
                                    try clear c143
                                    try clear c144
                                    try clear c145
                                    try clear c146
                                    try clear c148
                                    try clear c149
                                    try clear c150
                                    try clear c153
                                    try clear c154
                                    try clear p155
                                    try clear q155
                                    try clear hx155
                                    try clear c156
                                    try clear hcz105_0
                                    try clear hcz105_1
                                    try clear hcz105_2
                                    try clear hcz109_0
                                    try clear hcz109_1
                                    try clear hcz113_0
                                    try clear hcz113_1
                                    try clear hcz113_2
                                    try clear hcz115_0
                                    try clear hcz115_1
                                    try clear hcz115_2
                                    try clear hcz116_0
                                    try clear hcz116_1
                                    try clear hcz118_0
                                    try clear hcz118_1
                                    try clear hcz118_2
                                    try clear hcz126_0
                                    try clear hcz126_1
                                    try clear hcz126_2
                                    try clear hcz130_0
                                    try clear hcz130_1
                                    try clear hcz134_0
                                    try clear hcz134_1
                                    try clear hcz134_2
                                    try clear hcz136_0
                                    try clear hcz136_1
                                    try clear hcz136_2
                                    try clear hcz137_0
                                    try clear hcz137_1
                                    try clear hcz139_0
                                    try clear hcz139_1
                                    try clear hcz139_2
                                    try clear hcz147_0
                                    try clear hcz147_1
                                    try clear hcz147_2
                                    try clear hcz14_0
                                    try clear hcz14_1
                                    try clear hcz14_2
                                    try clear hcz151_0
                                    try clear hcz151_1
                                    try clear hcz155_0
                                    try clear hcz155_1
                                    try clear hcz155_2
                                    try clear hcz157_0
                                    try clear hcz157_1
                                    try clear hcz157_2
                                    try clear hcz158_0
                                    try clear hcz158_1
                                    try clear hcz160_0
                                    try clear hcz160_1
                                    try clear hcz160_2
                                    try clear hcz22_0
                                    try clear hcz22_1
                                    try clear hcz22_2
                                    try clear hcz28_0
                                    try clear hcz28_1
                                    try clear hcz28_2
                                    try clear hcz39_0
                                    try clear hcz39_1
                                    try clear hcz43_0
                                    try clear hcz43_1
                                    try clear hcz46_0
                                    try clear hcz46_1
                                    try clear hcz55_0
                                    try clear hcz55_1
                                    try clear hcz63_0
                                    try clear hcz63_1
                                    try clear hcz63_2
                                    try clear hcz67_0
                                    try clear hcz67_1
                                    try clear hcz71_0
                                    try clear hcz71_1
                                    try clear hcz71_2
                                    try clear hcz73_0
                                    try clear hcz73_1
                                    try clear hcz73_2
                                    try clear hcz74_0
                                    try clear hcz74_1
                                    try clear hcz76_0
                                    try clear hcz76_1
                                    try clear hcz76_2
                                    try clear hcz84_0
                                    try clear hcz84_1
                                    try clear hcz84_2
                                    try clear hcz88_0
                                    try clear hcz88_1
                                    try clear hcz92_0
                                    try clear hcz92_1
                                    try clear hcz92_2
                                    try clear hcz94_0
                                    try clear hcz94_1
                                    try clear hcz94_2
                                    try clear hcz95_0
                                    try clear hcz95_1
                                    try clear hcz97_0
                                    try clear hcz97_1
                                    try clear hcz97_2
                                    try clear hfz105_0
                                    try clear hfz105_1
                                    try clear hfz105_2
                                    try clear hfz109_0
                                    try clear hfz109_1
                                    try clear hfz113_0
                                    try clear hfz113_1
                                    try clear hfz113_2
                                    try clear hfz115_0
                                    try clear hfz115_1
                                    try clear hfz115_2
                                    try clear hfz116_0
                                    try clear hfz116_1
                                    try clear hfz118_0
                                    try clear hfz118_1
                                    try clear hfz118_2
                                    try clear hfz126_0
                                    try clear hfz126_1
                                    try clear hfz126_2
                                    try clear hfz130_0
                                    try clear hfz130_1
                                    try clear hfz134_0
                                    try clear hfz134_1
                                    try clear hfz134_2
                                    try clear hfz136_0
                                    try clear hfz136_1
                                    try clear hfz136_2
                                    try clear hfz137_0
                                    try clear hfz137_1
                                    try clear hfz139_0
                                    try clear hfz139_1
                                    try clear hfz139_2
                                    try clear hfz147_0
                                    try clear hfz147_1
                                    try clear hfz147_2
                                    try clear hfz14_0
                                    try clear hfz14_1
                                    try clear hfz14_2
                                    try clear hfz151_0
                                    try clear hfz151_1
                                    try clear hfz155_0
                                    try clear hfz155_1
                                    try clear hfz155_2
                                    try clear hfz157_0
                                    try clear hfz157_1
                                    try clear hfz157_2
                                    try clear hfz158_0
                                    try clear hfz158_1
                                    try clear hfz160_0
                                    try clear hfz160_1
                                    try clear hfz160_2
                                    try clear hfz22_0
                                    try clear hfz22_1
                                    try clear hfz22_2
                                    try clear hfz28_0
                                    try clear hfz28_1
                                    try clear hfz28_2
                                    try clear hfz39_0
                                    try clear hfz39_1
                                    try clear hfz43_0
                                    try clear hfz43_1
                                    try clear hfz46_0
                                    try clear hfz46_1
                                    try clear hfz55_0
                                    try clear hfz55_1
                                    try clear hfz63_0
                                    try clear hfz63_1
                                    try clear hfz63_2
                                    try clear hfz67_0
                                    try clear hfz67_1
                                    try clear hfz71_0
                                    try clear hfz71_1
                                    try clear hfz71_2
                                    try clear hfz73_0
                                    try clear hfz73_1
                                    try clear hfz73_2
                                    try clear hfz74_0
                                    try clear hfz74_1
                                    try clear hfz76_0
                                    try clear hfz76_1
                                    try clear hfz76_2
                                    try clear hfz84_0
                                    try clear hfz84_1
                                    try clear hfz84_2
                                    try clear hfz88_0
                                    try clear hfz88_1
                                    try clear hfz92_0
                                    try clear hfz92_1
                                    try clear hfz92_2
                                    try clear hfz94_0
                                    try clear hfz94_1
                                    try clear hfz94_2
                                    try clear hfz95_0
                                    try clear hfz95_1
                                    try clear hfz97_0
                                    try clear hfz97_1
                                    try clear hfz97_2
                                    try clear hx155_0
                                    try clear hx155_1
                                    try clear p1
                                    try clear p15
                                    try clear p155
                                    try clear p2
                                    try clear q1
                                    try clear q15
                                    try clear q155
                                    obtain ⟨kq, x12_47, x13_47, x14_47, x15_47, x158000_47, x158001_47, x158002_47, x159000_47, x159001_47, x159002_47, rfl, rfl, rfl, rfl, HA, HJ47, BK150, BK151, BK156, BK157, BK158, HB⟩ := hcut
                                    cases kq with
                                    | zero => exact absurd HA.out (by simp [bywashlaw12_WindowPlays.j4])
                                    | succ kj47 =>
                                      have H := HA.out
                                      clear HA
                                      simp only [bywashlaw12_WindowPlays.j4] at H
                                      have HC161 := Aside0.mk H
                                      clear H
                                      go_upto_region 36 with (fail)
                                      go_cut [158] (fun v158 wc => ∃ (kq : Nat) (x158_160 : Bool), v158 = .bool x158_160 ∧ Aside0 (bywashlaw12_WindowPlays.j5 kq l1 (l1.length : Int) x51_3 x158_160 x158000_47 x158001_47 x158002_47 x159000_47 x159001_47 x159002_47 = some r) ∧ Aside0 (kq ≤ kj47) ∧ Aside0 (wc.heap[gb150]? = some (.cells #[.int .i64 x151000_3, .int .i64 x151001_3, .int .i64 x151002_3] 25 (0, 0))) ∧ Aside0 (wc.heap[gb151]? = some (.cells #[.int .i64 x152000_3, .int .i64 x152001_3, .int .i64 x152002_3] 35 (0, 0))) ∧ Aside0 (wc.heap[gb156]? = some (.cells #[.int .i64 ((rd_T38 l1 x51_3).f0), .int .i64 ((rd_T38 l1 x51_3).f1)] 38 (0, 0))) ∧ Aside0 (wc.heap[gb157]? = some (.cells #[.int .i64 x158000_47, .int .i64 x158001_47, .int .i64 x158002_47] 25 (0, 0))) ∧ Aside0 (wc.heap[gb158]? = some (.cells #[.int .i64 x159000_47, .int .i64 x159001_47, .int .i64 x159002_47] 35 (0, 0))) ∧ Aside0 (Below w.heap.size w wc))
                                      case first =>
                                        have H := HC161.out
                                        clear HC161
                                        replace H := Option.bind_eq_some_iff.mp H
                                        obtain ⟨⟨t199, t200, t201⟩, A1620, H⟩ := H
                                        replace H : (if (!(t199 == x159000_47) || (!(t200 == x159001_47) || (!(t201 == x159002_47)))) = true then (bywashlaw12_WindowPlays.j5 kj47 l1 (l1.length : Int) x51_3 true x158000_47 x158001_47 x158002_47 x159000_47 x159001_47 x159002_47) else (if (x12_47 != x13_47) = true then (bywashlaw12_WindowPlays.j5 kj47 l1 (l1.length : Int) x51_3 true x158000_47 x158001_47 x158002_47 x159000_47 x159001_47 x159002_47) else (bywashlaw12_WindowPlays.j5 kj47 l1 (l1.length : Int) x51_3 (x14_47 != x15_47) x158000_47 x158001_47 x158002_47 x159000_47 x159001_47 x159002_47))) = some r := H
                                        have A162 := Aside0.mk A1620
                                        clear A1620
                                        by_cases c163 : (!(t199 == x159000_47) || (!(t200 == x159001_47) || (!(t201 == x159002_47)))) = true
                                        · rw [if_pos c163] at H
                                          have c163b0 : (!(t199 == x159000_47) || (!(t200 == x159001_47) || (!(t201 == x159002_47)))) = true := c163
                                          clear c163
                                          (first | rw [c163b0] | (simp only [i64_w, i32_w]; rw [c163b0]) | skip)
                                          have H' := Aside0.mk H
                                          clear H
                                          try go_wp2
                                          have n0_ := Aside0.mk (blk_drew BK150.out)
                                          have n1_ := Aside0.mk (blk_drew BK151.out)
                                          have n2_ := Aside0.mk (blk_drew BK156.out)
                                          have n3_ := Aside0.mk (blk_drew BK157.out)
                                          have n4_ := Aside0.mk (blk_drew BK158.out)
                                          have n5_ := Aside0.mk (below_drew1 HB.out)
                                          clear BK150
                                          clear BK151
                                          clear BK156
                                          clear BK157
                                          clear BK158
                                          clear HB
                                          have BK150 := n0_
                                          have BK151 := n1_
                                          have BK156 := n2_
                                          have BK157 := n3_
                                          have BK158 := n4_
                                          have HB := n5_
                                          clear n0_ n1_ n2_ n3_ n4_ n5_
                                          refine start_ (n := 14) (S := fun w' => w'.cell? ⟨gb157, 0, none⟩ = some (.int .i64 x158000_47) ∧ w'.cell? ⟨gb157, 1, none⟩ = some (.int .i64 x158001_47) ∧ w'.cell? ⟨gb157, 2, none⟩ = some (.int .i64 x158002_47) ∧ w'.cell? ⟨gb158, 0, none⟩ = some (.int .i64 x159000_47) ∧ w'.cell? ⟨gb158, 1, none⟩ = some (.int .i64 x159001_47) ∧ w'.cell? ⟨gb158, 2, none⟩ = some (.int .i64 x159002_47)) (ds := []) #[false, false, false, false, false, false, false, false, false, false, false, false, false, false] (by kernel_rfl) rfl rfl ⟨(blk_cell BK157.out 0).trans rfl, (blk_cell BK157.out 1).trans rfl, (blk_cell BK157.out 2).trans rfl, (blk_cell BK158.out 0).trans rfl, (blk_cell BK158.out 1).trans rfl, (blk_cell BK158.out 2).trans rfl⟩ (fun hHeld => ?_); refine with_tabW bywashlaw12_WindowPlays.tab36 bywashlaw12_WindowPlays.bits36 (fun HT_ HW_ => ?_)
                                          generalize wc.drew = w164 at BK150 BK151 BK156 BK157 BK158 HB hHeld ⊢
                                          refine take_ (i := 0) (N := some 145) (v := ?_) (a' := ?_) #[true, false, false, false, false, false, false, false, false, false, false, false, false, false] rfl rfl (take_ofW HT_.out HW_.out (by kernel_rfl)) (fun _ _ _ h => h) (Or.inl ⟨by rfl, ?_⟩) hHeld ?_ ?_
                                          rotate_left
                                          · rintro w' ⟨s0, s1, s2, s3, s4, s5⟩
                                            go_simp
                                            with_reducible rfl
                                          rotate_left
                                          · simp only [Act.put, List.setIfInBounds_toArray, List.set_cons_zero, List.set_cons_succ, i64_w, i32_w]
                                            rfl
                                          refine take_ (i := 2) (N := some 147) (v := ?_) (a' := ?_) #[true, false, true, false, false, false, false, false, false, false, false, false, false, false] rfl rfl (take_ofW HT_.out HW_.out (by kernel_rfl)) (fun _ _ _ h => h) (Or.inl ⟨by rfl, ?_⟩) hHeld ?_ ?_
                                          rotate_left
                                          · rintro w' ⟨s0, s1, s2, s3, s4, s5⟩
                                            go_simp
                                            with_reducible rfl
                                          rotate_left
                                          · simp only [Act.put, List.setIfInBounds_toArray, List.set_cons_zero, List.set_cons_succ, i64_w, i32_w]
                                            rfl
                                          refine one_ (i := 1) (N := some 146) #[true, true, true, false, false, false, false, false, false, false, false, false, false, false] rfl rfl (one_of HT_.out (by kernel_rfl)) (by decide) (fun K hK => ?_)
                                          refine goes_ Try.func16 (by kernel_rfl) rfl #[.agg #[.int .i64 x158000_47, .int .i64 x158001_47, .int .i64 x158002_47]] (by rfl) rfl rfl (by (try simp only [List.map_toArray, List.map_cons, List.map_nil]); first | done | rfl | (simp only [List.length_drop, List.length_take]; rfl)) ?_
                                          with_reducible refine (bywashlaw12_Ref.calls x158000_47 x158001_47 x158002_47 t199 t200 t201 _ A162.out).mono ?_
                                          rintro e w165 ⟨rfl, hb⟩
                                          refine ⟨_, rfl, ?_⟩
                                          have n0_ := Aside0.mk (blk_below (g := gb150) (o := .cells #[.int .i64 x151000_3, .int .i64 x151001_3, .int .i64 x151002_3] 25 (0, 0)) (by (with_reducible repeat (first | refine blk_drewN ?_ _ | refine blk_drew ?_ | refine blk_alloc ?_ _)); exact BK150.out) hb)
                                          have n1_ := Aside0.mk (blk_below (g := gb151) (o := .cells #[.int .i64 x152000_3, .int .i64 x152001_3, .int .i64 x152002_3] 35 (0, 0)) (by (with_reducible repeat (first | refine blk_drewN ?_ _ | refine blk_drew ?_ | refine blk_alloc ?_ _)); exact BK151.out) hb)
                                          have n2_ := Aside0.mk (blk_below (g := gb156) (o := .cells #[.int .i64 ((rd_T38 l1 x51_3).f0), .int .i64 ((rd_T38 l1 x51_3).f1)] 38 (0, 0)) (by (with_reducible repeat (first | refine blk_drewN ?_ _ | refine blk_drew ?_ | refine blk_alloc ?_ _)); exact BK156.out) hb)
                                          have n3_ := Aside0.mk (blk_below (g := gb157) (o := .cells #[.int .i64 x158000_47, .int .i64 x158001_47, .int .i64 x158002_47] 25 (0, 0)) (by (with_reducible repeat (first | refine blk_drewN ?_ _ | refine blk_drew ?_ | refine blk_alloc ?_ _)); exact BK157.out) hb)
                                          have n4_ := Aside0.mk (blk_below (g := gb158) (o := .cells #[.int .i64 x159000_47, .int .i64 x159001_47, .int .i64 x159002_47] 35 (0, 0)) (by (with_reducible repeat (first | refine blk_drewN ?_ _ | refine blk_drew ?_ | refine blk_alloc ?_ _)); exact BK158.out) hb)
                                          have n5_ := Aside0.mk (below_step (by repeat (first | (with_reducible first | exact HB.out | apply below_alloc | apply pw_below_drewN | apply below_drew1 | refine below_set ?_ GE150.out | refine below_set ?_ GE151.out | refine below_set ?_ GE156.out | refine below_set ?_ GE157.out | refine below_set ?_ GE158.out) | exact HB.out)) hb)
                                          clear BK150
                                          clear BK151
                                          clear BK156
                                          clear BK157
                                          clear BK158
                                          clear HB
                                          have BK150 := n0_
                                          have BK151 := n1_
                                          have BK156 := n2_
                                          have BK157 := n3_
                                          have BK158 := n4_
                                          have HB := n5_
                                          clear n0_ n1_ n2_ n3_ n4_ n5_
                                          (try clear hb)
                                          (try clear hb2)
                                          (try clear hk)
                                          (try clear hi)
                                          refine hK.out _ _ ⟨(blk_cell BK157.out 0).trans rfl, (blk_cell BK157.out 1).trans rfl, (blk_cell BK157.out 2).trans rfl, (blk_cell BK158.out 0).trans rfl, (blk_cell BK158.out 1).trans rfl, (blk_cell BK158.out 2).trans rfl⟩ (fun hHeld => ?_)
                                          clear hK K
                                          refine norm_ (a' := ?_) ?_ ?_
                                          rotate_left
                                          · show Act.put _ (some 146) _ = _
                                            simp only [Act.put, List.setIfInBounds_toArray, List.set_cons_zero, List.set_cons_succ, i64_w, i32_w]
                                            rfl
                                          refine pure_ (i := 3) (N := some 148) (v := ?_) (a' := ?_) #[true, true, true, true, false, false, false, false, false, false, false, false, false, false] rfl rfl (any_of HT_.out (by kernel_rfl)) (fun _ _ _ h => h) (Or.inl ⟨by rfl, ?_⟩) ?_ ?_
                                          rotate_left
                                          · intro w'
                                            go_simp
                                            with_reducible rfl
                                          rotate_left
                                          · simp only [Act.put, List.setIfInBounds_toArray, List.set_cons_zero, List.set_cons_succ, i64_w, i32_w]
                                            rfl
                                          refine pure_ (i := 4) (N := some 149) (v := ?_) (a' := ?_) #[true, true, true, true, true, false, false, false, false, false, false, false, false, false] rfl rfl (any_of HT_.out (by kernel_rfl)) (fun _ _ _ h => h) (Or.inl ⟨by rfl, ?_⟩) ?_ ?_
                                          rotate_left
                                          · intro w'
                                            go_simp
                                            with_reducible rfl
                                          rotate_left
                                          · simp only [Act.put, List.setIfInBounds_toArray, List.set_cons_zero, List.set_cons_succ, i64_w, i32_w]
                                            rfl
                                          refine pure_ (i := 5) (N := some 150) (v := undef) (a' := ?_) #[true, true, true, true, true, true, false, false, false, false, false, false, false, false] rfl rfl (any_of HT_.out (by kernel_rfl)) (fun _ _ _ h => h) (Or.inr ⟨by rfl, rfl⟩) ?_ ?_
                                          rotate_left
                                          · simp only [Act.put, List.setIfInBounds_toArray, List.set_cons_zero, List.set_cons_succ, i64_w, i32_w]
                                            rfl
                                          refine pure_ (i := 6) (N := some 151) (v := undef) (a' := ?_) #[true, true, true, true, true, true, true, false, false, false, false, false, false, false] rfl rfl (any_of HT_.out (by kernel_rfl)) (fun _ _ _ h => h) (Or.inr ⟨by rfl, rfl⟩) ?_ ?_
                                          rotate_left
                                          · simp only [Act.put, List.setIfInBounds_toArray, List.set_cons_zero, List.set_cons_succ, i64_w, i32_w]
                                            rfl
                                          refine pure_ (i := 7) (N := some 152) (v := undef) (a' := ?_) #[true, true, true, true, true, true, true, true, false, false, false, false, false, false] rfl rfl (any_of HT_.out (by kernel_rfl)) (fun _ _ _ h => h) (Or.inr ⟨by rfl, rfl⟩) ?_ ?_
                                          rotate_left
                                          · simp only [Act.put, List.setIfInBounds_toArray, List.set_cons_zero, List.set_cons_succ, i64_w, i32_w]
                                            rfl
                                          refine pure_ (i := 8) (N := some 153) (v := ?_) (a' := ?_) #[true, true, true, true, true, true, true, true, true, false, false, false, false, false] rfl rfl (any_of HT_.out (by kernel_rfl)) (fun _ _ _ h => h) (Or.inl ⟨by rfl, ?_⟩) ?_ ?_
                                          rotate_left
                                          · intro w'
                                            go_simp
                                            with_reducible rfl
                                          rotate_left
                                          · simp only [Act.put, List.setIfInBounds_toArray, List.set_cons_zero, List.set_cons_succ, i64_w, i32_w]
                                            rfl
                                          refine pure_ (i := 9) (N := some 154) (v := ?_) (a' := ?_) #[true, true, true, true, true, true, true, true, true, true, false, false, false, false] rfl rfl (any_of HT_.out (by kernel_rfl)) (fun _ _ _ h => h) (Or.inl ⟨by rfl, ?_⟩) ?_ ?_
                                          rotate_left
                                          · intro w'
                                            go_simp
                                            with_reducible rfl
                                          rotate_left
                                          · simp only [Act.put, List.setIfInBounds_toArray, List.set_cons_zero, List.set_cons_succ, i64_w, i32_w]
                                            rfl
                                          refine pure_ (i := 10) (N := some 155) (v := undef) (a' := ?_) #[true, true, true, true, true, true, true, true, true, true, true, false, false, false] rfl rfl (any_of HT_.out (by kernel_rfl)) (fun _ _ _ h => h) (Or.inr ⟨by rfl, rfl⟩) ?_ ?_
                                          rotate_left
                                          · simp only [Act.put, List.setIfInBounds_toArray, List.set_cons_zero, List.set_cons_succ, i64_w, i32_w]
                                            rfl
                                          refine pure_ (i := 11) (N := some 156) (v := undef) (a' := ?_) #[true, true, true, true, true, true, true, true, true, true, true, true, false, false] rfl rfl (any_of HT_.out (by kernel_rfl)) (fun _ _ _ h => h) (Or.inr ⟨by rfl, rfl⟩) ?_ ?_
                                          rotate_left
                                          · simp only [Act.put, List.setIfInBounds_toArray, List.set_cons_zero, List.set_cons_succ, i64_w, i32_w]
                                            rfl
                                          refine pure_ (i := 12) (N := some 157) (v := undef) (a' := ?_) #[true, true, true, true, true, true, true, true, true, true, true, true, true, false] rfl rfl (any_of HT_.out (by kernel_rfl)) (fun _ _ _ h => h) (Or.inr ⟨by rfl, rfl⟩) ?_ ?_
                                          rotate_left
                                          · simp only [Act.put, List.setIfInBounds_toArray, List.set_cons_zero, List.set_cons_succ, i64_w, i32_w]
                                            rfl
                                          refine pure_ (i := 13) (N := some 158) (v := ?_) (a' := ?_) #[true, true, true, true, true, true, true, true, true, true, true, true, true, true] rfl rfl (any_of HT_.out (by kernel_rfl)) (fun _ _ _ h => h) (Or.inl ⟨by rfl, ?_⟩) ?_ ?_
                                          rotate_left
                                          · intro w'
                                            go_simp
                                            with_reducible rfl
                                          rotate_left
                                          · simp only [Act.put, List.setIfInBounds_toArray, List.set_cons_zero, List.set_cons_succ, i64_w, i32_w]
                                            rfl
                                          refine done_ (done_of HT_.out (by kernel_rfl)) ?_
                                          try go_wp2
                                          go_meet
                                          case rel => exact ⟨_, (true), (by first | rfl | (simp; done) | (simp [*]; done)), H', ⟨by have := HJ2.out; have := HJ10.out; have := HK3.out; have := HJ34.out; have := HJ47.out; first | omega | exact Nat.le_refl _⟩, ⟨by (with_reducible repeat (first | refine blk_drewN ?_ _ | refine blk_drew ?_ | refine blk_alloc ?_ _)); exact BK150.out⟩, ⟨by (with_reducible repeat (first | refine blk_drewN ?_ _ | refine blk_drew ?_ | refine blk_alloc ?_ _)); exact BK151.out⟩, ⟨by (with_reducible repeat (first | refine blk_drewN ?_ _ | refine blk_drew ?_ | refine blk_alloc ?_ _)); exact BK156.out⟩, ⟨by (with_reducible repeat (first | refine blk_drewN ?_ _ | refine blk_drew ?_ | refine blk_alloc ?_ _)); exact BK157.out⟩, ⟨by (with_reducible repeat (first | refine blk_drewN ?_ _ | refine blk_drew ?_ | refine blk_alloc ?_ _)); exact BK158.out⟩, ⟨by repeat (first | (with_reducible first | exact HB.out | apply below_alloc | apply pw_below_drewN | apply below_drew1 | refine below_set ?_ GE150.out | refine below_set ?_ GE151.out | refine below_set ?_ GE156.out | refine below_set ?_ GE157.out | refine below_set ?_ GE158.out) | exact HB.out)⟩⟩
                                        · rw [if_neg c163] at H
                                          have c163b0 : (!(t199 == x159000_47) || (!(t200 == x159001_47) || (!(t201 == x159002_47)))) = false := by simpa using c163
                                          clear c163
                                          (first | rw [c163b0] | (simp only [i64_w, i32_w]; rw [c163b0]) | skip)
                                          by_cases c166 : (x12_47 != x13_47) = true
                                          · rw [if_pos c166] at H
                                            have c166b0 : (x12_47 != x13_47) = true := c166
                                            (try (have c166b1 : decide (x12_47 = x13_47) = false := by simpa using c166))
                                            (try (have c166b2 : (x12_47 == x13_47) = false := by simpa using c166))
                                            (try (have c166b3 : ¬ (x12_47 = x13_47) := by simpa using c166))
                                            clear c166
                                            have H' := Aside0.mk H
                                            clear H
                                            try go_wp2
                                            have n0_ := Aside0.mk (blk_drew BK150.out)
                                            have n1_ := Aside0.mk (blk_drew BK151.out)
                                            have n2_ := Aside0.mk (blk_drew BK156.out)
                                            have n3_ := Aside0.mk (blk_drew BK157.out)
                                            have n4_ := Aside0.mk (blk_drew BK158.out)
                                            have n5_ := Aside0.mk (below_drew1 HB.out)
                                            clear BK150
                                            clear BK151
                                            clear BK156
                                            clear BK157
                                            clear BK158
                                            clear HB
                                            have BK150 := n0_
                                            have BK151 := n1_
                                            have BK156 := n2_
                                            have BK157 := n3_
                                            have BK158 := n4_
                                            have HB := n5_
                                            clear n0_ n1_ n2_ n3_ n4_ n5_
                                            refine start_ (n := 14) (S := fun w' => w'.cell? ⟨gb157, 0, none⟩ = some (.int .i64 x158000_47) ∧ w'.cell? ⟨gb157, 1, none⟩ = some (.int .i64 x158001_47) ∧ w'.cell? ⟨gb157, 2, none⟩ = some (.int .i64 x158002_47) ∧ w'.cell? ⟨gb158, 0, none⟩ = some (.int .i64 x159000_47) ∧ w'.cell? ⟨gb158, 1, none⟩ = some (.int .i64 x159001_47) ∧ w'.cell? ⟨gb158, 2, none⟩ = some (.int .i64 x159002_47)) (ds := []) #[false, false, false, false, false, false, false, false, false, false, false, false, false, false] (by kernel_rfl) rfl rfl ⟨(blk_cell BK157.out 0).trans rfl, (blk_cell BK157.out 1).trans rfl, (blk_cell BK157.out 2).trans rfl, (blk_cell BK158.out 0).trans rfl, (blk_cell BK158.out 1).trans rfl, (blk_cell BK158.out 2).trans rfl⟩ (fun hHeld => ?_); refine with_tabW bywashlaw12_WindowPlays.tab36 bywashlaw12_WindowPlays.bits36 (fun HT_ HW_ => ?_)
                                            generalize wc.drew = w167 at BK150 BK151 BK156 BK157 BK158 HB hHeld ⊢
                                            refine take_ (i := 0) (N := some 145) (v := ?_) (a' := ?_) #[true, false, false, false, false, false, false, false, false, false, false, false, false, false] rfl rfl (take_ofW HT_.out HW_.out (by kernel_rfl)) (fun _ _ _ h => h) (Or.inl ⟨by rfl, ?_⟩) hHeld ?_ ?_
                                            rotate_left
                                            · rintro w' ⟨s0, s1, s2, s3, s4, s5⟩
                                              go_simp
                                              with_reducible rfl
                                            rotate_left
                                            · simp only [Act.put, List.setIfInBounds_toArray, List.set_cons_zero, List.set_cons_succ, i64_w, i32_w]
                                              rfl
                                            refine take_ (i := 2) (N := some 147) (v := ?_) (a' := ?_) #[true, false, true, false, false, false, false, false, false, false, false, false, false, false] rfl rfl (take_ofW HT_.out HW_.out (by kernel_rfl)) (fun _ _ _ h => h) (Or.inl ⟨by rfl, ?_⟩) hHeld ?_ ?_
                                            rotate_left
                                            · rintro w' ⟨s0, s1, s2, s3, s4, s5⟩
                                              go_simp
                                              with_reducible rfl
                                            rotate_left
                                            · simp only [Act.put, List.setIfInBounds_toArray, List.set_cons_zero, List.set_cons_succ, i64_w, i32_w]
                                              rfl
                                            refine one_ (i := 1) (N := some 146) #[true, true, true, false, false, false, false, false, false, false, false, false, false, false] rfl rfl (one_of HT_.out (by kernel_rfl)) (by decide) (fun K hK => ?_)
                                            refine goes_ Try.func16 (by kernel_rfl) rfl #[.agg #[.int .i64 x158000_47, .int .i64 x158001_47, .int .i64 x158002_47]] (by rfl) rfl rfl (by (try simp only [List.map_toArray, List.map_cons, List.map_nil]); first | done | rfl | (simp only [List.length_drop, List.length_take]; rfl)) ?_
                                            with_reducible refine (bywashlaw12_Ref.calls x158000_47 x158001_47 x158002_47 t199 t200 t201 _ A162.out).mono ?_
                                            rintro e w168 ⟨rfl, hb⟩
                                            refine ⟨_, rfl, ?_⟩
                                            have n0_ := Aside0.mk (blk_below (g := gb150) (o := .cells #[.int .i64 x151000_3, .int .i64 x151001_3, .int .i64 x151002_3] 25 (0, 0)) (by (with_reducible repeat (first | refine blk_drewN ?_ _ | refine blk_drew ?_ | refine blk_alloc ?_ _)); exact BK150.out) hb)
                                            have n1_ := Aside0.mk (blk_below (g := gb151) (o := .cells #[.int .i64 x152000_3, .int .i64 x152001_3, .int .i64 x152002_3] 35 (0, 0)) (by (with_reducible repeat (first | refine blk_drewN ?_ _ | refine blk_drew ?_ | refine blk_alloc ?_ _)); exact BK151.out) hb)
                                            have n2_ := Aside0.mk (blk_below (g := gb156) (o := .cells #[.int .i64 ((rd_T38 l1 x51_3).f0), .int .i64 ((rd_T38 l1 x51_3).f1)] 38 (0, 0)) (by (with_reducible repeat (first | refine blk_drewN ?_ _ | refine blk_drew ?_ | refine blk_alloc ?_ _)); exact BK156.out) hb)
                                            have n3_ := Aside0.mk (blk_below (g := gb157) (o := .cells #[.int .i64 x158000_47, .int .i64 x158001_47, .int .i64 x158002_47] 25 (0, 0)) (by (with_reducible repeat (first | refine blk_drewN ?_ _ | refine blk_drew ?_ | refine blk_alloc ?_ _)); exact BK157.out) hb)
                                            have n4_ := Aside0.mk (blk_below (g := gb158) (o := .cells #[.int .i64 x159000_47, .int .i64 x159001_47, .int .i64 x159002_47] 35 (0, 0)) (by (with_reducible repeat (first | refine blk_drewN ?_ _ | refine blk_drew ?_ | refine blk_alloc ?_ _)); exact BK158.out) hb)
                                            have n5_ := Aside0.mk (below_step (by repeat (first | (with_reducible first | exact HB.out | apply below_alloc | apply pw_below_drewN | apply below_drew1 | refine below_set ?_ GE150.out | refine below_set ?_ GE151.out | refine below_set ?_ GE156.out | refine below_set ?_ GE157.out | refine below_set ?_ GE158.out) | exact HB.out)) hb)
                                            clear BK150
                                            clear BK151
                                            clear BK156
                                            clear BK157
                                            clear BK158
                                            clear HB
                                            have BK150 := n0_
                                            have BK151 := n1_
                                            have BK156 := n2_
                                            have BK157 := n3_
                                            have BK158 := n4_
                                            have HB := n5_
                                            clear n0_ n1_ n2_ n3_ n4_ n5_
                                            (try clear hb)
                                            (try clear hb2)
                                            (try clear hk)
                                            (try clear hi)
                                            refine hK.out _ _ ⟨(blk_cell BK157.out 0).trans rfl, (blk_cell BK157.out 1).trans rfl, (blk_cell BK157.out 2).trans rfl, (blk_cell BK158.out 0).trans rfl, (blk_cell BK158.out 1).trans rfl, (blk_cell BK158.out 2).trans rfl⟩ (fun hHeld => ?_)
                                            clear hK K
                                            refine norm_ (a' := ?_) ?_ ?_
                                            rotate_left
                                            · show Act.put _ (some 146) _ = _
                                              simp only [Act.put, List.setIfInBounds_toArray, List.set_cons_zero, List.set_cons_succ, i64_w, i32_w]
                                              rfl
                                            refine pure_ (i := 3) (N := some 148) (v := ?_) (a' := ?_) #[true, true, true, true, false, false, false, false, false, false, false, false, false, false] rfl rfl (any_of HT_.out (by kernel_rfl)) (fun _ _ _ h => h) (Or.inl ⟨by rfl, ?_⟩) ?_ ?_
                                            rotate_left
                                            · intro w'
                                              go_simp
                                              with_reducible rfl
                                            rotate_left
                                            · simp only [Act.put, List.setIfInBounds_toArray, List.set_cons_zero, List.set_cons_succ, i64_w, i32_w]
                                              rfl
                                            refine pure_ (i := 4) (N := some 149) (v := ?_) (a' := ?_) #[true, true, true, true, true, false, false, false, false, false, false, false, false, false] rfl rfl (any_of HT_.out (by kernel_rfl)) (fun _ _ _ h => h) (Or.inl ⟨by rfl, ?_⟩) ?_ ?_
                                            rotate_left
                                            · intro w'
                                              go_simp
                                              with_reducible rfl
                                            rotate_left
                                            · simp only [Act.put, List.setIfInBounds_toArray, List.set_cons_zero, List.set_cons_succ, i64_w, i32_w]
                                              rfl
                                            refine pure_ (i := 5) (N := some 150) (v := ?_) (a' := ?_) #[true, true, true, true, true, true, false, false, false, false, false, false, false, false] rfl rfl (any_of HT_.out (by kernel_rfl)) (fun _ _ _ h => h) (Or.inl ⟨by rfl, ?_⟩) ?_ ?_
                                            rotate_left
                                            · intro w'
                                              go_simp
                                              with_reducible rfl
                                            rotate_left
                                            · simp only [Act.put, List.setIfInBounds_toArray, List.set_cons_zero, List.set_cons_succ, i64_w, i32_w]
                                              rfl
                                            refine pure_ (i := 6) (N := some 151) (v := ?_) (a' := ?_) #[true, true, true, true, true, true, true, false, false, false, false, false, false, false] rfl rfl (any_of HT_.out (by kernel_rfl)) (fun _ _ _ h => h) (Or.inl ⟨by rfl, ?_⟩) ?_ ?_
                                            rotate_left
                                            · intro w'
                                              go_simp
                                              with_reducible rfl
                                            rotate_left
                                            · simp only [Act.put, List.setIfInBounds_toArray, List.set_cons_zero, List.set_cons_succ, i64_w, i32_w]
                                              rfl
                                            refine pure_ (i := 7) (N := some 152) (v := ?_) (a' := ?_) #[true, true, true, true, true, true, true, true, false, false, false, false, false, false] rfl rfl (any_of HT_.out (by kernel_rfl)) (fun _ _ _ h => h) (Or.inl ⟨by rfl, ?_⟩) ?_ ?_
                                            rotate_left
                                            · intro w'
                                              go_simp
                                              with_reducible rfl
                                            rotate_left
                                            · simp only [Act.put, List.setIfInBounds_toArray, List.set_cons_zero, List.set_cons_succ, i64_w, i32_w]
                                              rfl
                                            refine pure_ (i := 8) (N := some 153) (v := ?_) (a' := ?_) #[true, true, true, true, true, true, true, true, true, false, false, false, false, false] rfl rfl (any_of HT_.out (by kernel_rfl)) (fun _ _ _ h => h) (Or.inl ⟨by rfl, ?_⟩) ?_ ?_
                                            rotate_left
                                            · intro w'
                                              go_simp
                                              with_reducible rfl
                                            rotate_left
                                            · simp only [Act.put, List.setIfInBounds_toArray, List.set_cons_zero, List.set_cons_succ, i64_w, i32_w]
                                              rfl
                                            refine pure_ (i := 9) (N := some 154) (v := ?_) (a' := ?_) #[true, true, true, true, true, true, true, true, true, true, false, false, false, false] rfl rfl (any_of HT_.out (by kernel_rfl)) (fun _ _ _ h => h) (Or.inl ⟨by rfl, ?_⟩) ?_ ?_
                                            rotate_left
                                            · intro w'
                                              go_simp
                                              with_reducible rfl
                                            rotate_left
                                            · simp only [Act.put, List.setIfInBounds_toArray, List.set_cons_zero, List.set_cons_succ, i64_w, i32_w]
                                              rfl
                                            refine pure_ (i := 10) (N := some 155) (v := undef) (a' := ?_) #[true, true, true, true, true, true, true, true, true, true, true, false, false, false] rfl rfl (any_of HT_.out (by kernel_rfl)) (fun _ _ _ h => h) (Or.inr ⟨by rfl, rfl⟩) ?_ ?_
                                            rotate_left
                                            · simp only [Act.put, List.setIfInBounds_toArray, List.set_cons_zero, List.set_cons_succ, i64_w, i32_w]
                                              rfl
                                            refine pure_ (i := 11) (N := some 156) (v := undef) (a' := ?_) #[true, true, true, true, true, true, true, true, true, true, true, true, false, false] rfl rfl (any_of HT_.out (by kernel_rfl)) (fun _ _ _ h => h) (Or.inr ⟨by rfl, rfl⟩) ?_ ?_
                                            rotate_left
                                            · simp only [Act.put, List.setIfInBounds_toArray, List.set_cons_zero, List.set_cons_succ, i64_w, i32_w]
                                              rfl
                                            refine pure_ (i := 12) (N := some 157) (v := undef) (a' := ?_) #[true, true, true, true, true, true, true, true, true, true, true, true, true, false] rfl rfl (any_of HT_.out (by kernel_rfl)) (fun _ _ _ h => h) (Or.inr ⟨by rfl, rfl⟩) ?_ ?_
                                            rotate_left
                                            · simp only [Act.put, List.setIfInBounds_toArray, List.set_cons_zero, List.set_cons_succ, i64_w, i32_w]
                                              rfl
                                            refine pure_ (i := 13) (N := some 158) (v := ?_) (a' := ?_) #[true, true, true, true, true, true, true, true, true, true, true, true, true, true] rfl rfl (any_of HT_.out (by kernel_rfl)) (fun _ _ _ h => h) (Or.inl ⟨by rfl, ?_⟩) ?_ ?_
                                            rotate_left
                                            · intro w'
                                              go_simp
                                              with_reducible rfl
                                            rotate_left
                                            · simp only [Act.put, List.setIfInBounds_toArray, List.set_cons_zero, List.set_cons_succ, i64_w, i32_w]
                                              rfl
                                            refine done_ (done_of HT_.out (by kernel_rfl)) ?_
                                            try go_wp2
                                            go_meet
                                            case rel => exact ⟨_, (true), (by first | rfl | (simp; done) | (simp [*]; done)), H', ⟨by have := HJ2.out; have := HJ10.out; have := HK3.out; have := HJ34.out; have := HJ47.out; first | omega | exact Nat.le_refl _⟩, ⟨by (with_reducible repeat (first | refine blk_drewN ?_ _ | refine blk_drew ?_ | refine blk_alloc ?_ _)); exact BK150.out⟩, ⟨by (with_reducible repeat (first | refine blk_drewN ?_ _ | refine blk_drew ?_ | refine blk_alloc ?_ _)); exact BK151.out⟩, ⟨by (with_reducible repeat (first | refine blk_drewN ?_ _ | refine blk_drew ?_ | refine blk_alloc ?_ _)); exact BK156.out⟩, ⟨by (with_reducible repeat (first | refine blk_drewN ?_ _ | refine blk_drew ?_ | refine blk_alloc ?_ _)); exact BK157.out⟩, ⟨by (with_reducible repeat (first | refine blk_drewN ?_ _ | refine blk_drew ?_ | refine blk_alloc ?_ _)); exact BK158.out⟩, ⟨by repeat (first | (with_reducible first | exact HB.out | apply below_alloc | apply pw_below_drewN | apply below_drew1 | refine below_set ?_ GE150.out | refine below_set ?_ GE151.out | refine below_set ?_ GE156.out | refine below_set ?_ GE157.out | refine below_set ?_ GE158.out) | exact HB.out)⟩⟩
                                          · rw [if_neg c166] at H
                                            have c166b0 : (x12_47 != x13_47) = false := by simpa using c166
                                            (try (have c166b1 : decide (x12_47 = x13_47) = true := by simpa using c166))
                                            (try (have c166b2 : (x12_47 == x13_47) = true := by simpa using c166))
                                            clear c166
                                            have H' := Aside0.mk H
                                            clear H
                                            try go_wp2
                                            have n0_ := Aside0.mk (blk_drew BK150.out)
                                            have n1_ := Aside0.mk (blk_drew BK151.out)
                                            have n2_ := Aside0.mk (blk_drew BK156.out)
                                            have n3_ := Aside0.mk (blk_drew BK157.out)
                                            have n4_ := Aside0.mk (blk_drew BK158.out)
                                            have n5_ := Aside0.mk (below_drew1 HB.out)
                                            clear BK150
                                            clear BK151
                                            clear BK156
                                            clear BK157
                                            clear BK158
                                            clear HB
                                            have BK150 := n0_
                                            have BK151 := n1_
                                            have BK156 := n2_
                                            have BK157 := n3_
                                            have BK158 := n4_
                                            have HB := n5_
                                            clear n0_ n1_ n2_ n3_ n4_ n5_
                                            refine start_ (n := 14) (S := fun w' => w'.cell? ⟨gb157, 0, none⟩ = some (.int .i64 x158000_47) ∧ w'.cell? ⟨gb157, 1, none⟩ = some (.int .i64 x158001_47) ∧ w'.cell? ⟨gb157, 2, none⟩ = some (.int .i64 x158002_47) ∧ w'.cell? ⟨gb158, 0, none⟩ = some (.int .i64 x159000_47) ∧ w'.cell? ⟨gb158, 1, none⟩ = some (.int .i64 x159001_47) ∧ w'.cell? ⟨gb158, 2, none⟩ = some (.int .i64 x159002_47)) (ds := []) #[false, false, false, false, false, false, false, false, false, false, false, false, false, false] (by kernel_rfl) rfl rfl ⟨(blk_cell BK157.out 0).trans rfl, (blk_cell BK157.out 1).trans rfl, (blk_cell BK157.out 2).trans rfl, (blk_cell BK158.out 0).trans rfl, (blk_cell BK158.out 1).trans rfl, (blk_cell BK158.out 2).trans rfl⟩ (fun hHeld => ?_); refine with_tabW bywashlaw12_WindowPlays.tab36 bywashlaw12_WindowPlays.bits36 (fun HT_ HW_ => ?_)
                                            generalize wc.drew = w169 at BK150 BK151 BK156 BK157 BK158 HB hHeld ⊢
                                            refine take_ (i := 0) (N := some 145) (v := ?_) (a' := ?_) #[true, false, false, false, false, false, false, false, false, false, false, false, false, false] rfl rfl (take_ofW HT_.out HW_.out (by kernel_rfl)) (fun _ _ _ h => h) (Or.inl ⟨by rfl, ?_⟩) hHeld ?_ ?_
                                            rotate_left
                                            · rintro w' ⟨s0, s1, s2, s3, s4, s5⟩
                                              go_simp
                                              with_reducible rfl
                                            rotate_left
                                            · simp only [Act.put, List.setIfInBounds_toArray, List.set_cons_zero, List.set_cons_succ, i64_w, i32_w]
                                              rfl
                                            refine take_ (i := 2) (N := some 147) (v := ?_) (a' := ?_) #[true, false, true, false, false, false, false, false, false, false, false, false, false, false] rfl rfl (take_ofW HT_.out HW_.out (by kernel_rfl)) (fun _ _ _ h => h) (Or.inl ⟨by rfl, ?_⟩) hHeld ?_ ?_
                                            rotate_left
                                            · rintro w' ⟨s0, s1, s2, s3, s4, s5⟩
                                              go_simp
                                              with_reducible rfl
                                            rotate_left
                                            · simp only [Act.put, List.setIfInBounds_toArray, List.set_cons_zero, List.set_cons_succ, i64_w, i32_w]
                                              rfl
                                            refine one_ (i := 1) (N := some 146) #[true, true, true, false, false, false, false, false, false, false, false, false, false, false] rfl rfl (one_of HT_.out (by kernel_rfl)) (by decide) (fun K hK => ?_)
                                            refine goes_ Try.func16 (by kernel_rfl) rfl #[.agg #[.int .i64 x158000_47, .int .i64 x158001_47, .int .i64 x158002_47]] (by rfl) rfl rfl (by (try simp only [List.map_toArray, List.map_cons, List.map_nil]); first | done | rfl | (simp only [List.length_drop, List.length_take]; rfl)) ?_
                                            with_reducible refine (bywashlaw12_Ref.calls x158000_47 x158001_47 x158002_47 t199 t200 t201 _ A162.out).mono ?_
                                            rintro e w170 ⟨rfl, hb⟩
                                            refine ⟨_, rfl, ?_⟩
                                            have n0_ := Aside0.mk (blk_below (g := gb150) (o := .cells #[.int .i64 x151000_3, .int .i64 x151001_3, .int .i64 x151002_3] 25 (0, 0)) (by (with_reducible repeat (first | refine blk_drewN ?_ _ | refine blk_drew ?_ | refine blk_alloc ?_ _)); exact BK150.out) hb)
                                            have n1_ := Aside0.mk (blk_below (g := gb151) (o := .cells #[.int .i64 x152000_3, .int .i64 x152001_3, .int .i64 x152002_3] 35 (0, 0)) (by (with_reducible repeat (first | refine blk_drewN ?_ _ | refine blk_drew ?_ | refine blk_alloc ?_ _)); exact BK151.out) hb)
                                            have n2_ := Aside0.mk (blk_below (g := gb156) (o := .cells #[.int .i64 ((rd_T38 l1 x51_3).f0), .int .i64 ((rd_T38 l1 x51_3).f1)] 38 (0, 0)) (by (with_reducible repeat (first | refine blk_drewN ?_ _ | refine blk_drew ?_ | refine blk_alloc ?_ _)); exact BK156.out) hb)
                                            have n3_ := Aside0.mk (blk_below (g := gb157) (o := .cells #[.int .i64 x158000_47, .int .i64 x158001_47, .int .i64 x158002_47] 25 (0, 0)) (by (with_reducible repeat (first | refine blk_drewN ?_ _ | refine blk_drew ?_ | refine blk_alloc ?_ _)); exact BK157.out) hb)
                                            have n4_ := Aside0.mk (blk_below (g := gb158) (o := .cells #[.int .i64 x159000_47, .int .i64 x159001_47, .int .i64 x159002_47] 35 (0, 0)) (by (with_reducible repeat (first | refine blk_drewN ?_ _ | refine blk_drew ?_ | refine blk_alloc ?_ _)); exact BK158.out) hb)
                                            have n5_ := Aside0.mk (below_step (by repeat (first | (with_reducible first | exact HB.out | apply below_alloc | apply pw_below_drewN | apply below_drew1 | refine below_set ?_ GE150.out | refine below_set ?_ GE151.out | refine below_set ?_ GE156.out | refine below_set ?_ GE157.out | refine below_set ?_ GE158.out) | exact HB.out)) hb)
                                            clear BK150
                                            clear BK151
                                            clear BK156
                                            clear BK157
                                            clear BK158
                                            clear HB
                                            have BK150 := n0_
                                            have BK151 := n1_
                                            have BK156 := n2_
                                            have BK157 := n3_
                                            have BK158 := n4_
                                            have HB := n5_
                                            clear n0_ n1_ n2_ n3_ n4_ n5_
                                            (try clear hb)
                                            (try clear hb2)
                                            (try clear hk)
                                            (try clear hi)
                                            refine hK.out _ _ ⟨(blk_cell BK157.out 0).trans rfl, (blk_cell BK157.out 1).trans rfl, (blk_cell BK157.out 2).trans rfl, (blk_cell BK158.out 0).trans rfl, (blk_cell BK158.out 1).trans rfl, (blk_cell BK158.out 2).trans rfl⟩ (fun hHeld => ?_)
                                            clear hK K
                                            refine norm_ (a' := ?_) ?_ ?_
                                            rotate_left
                                            · show Act.put _ (some 146) _ = _
                                              simp only [Act.put, List.setIfInBounds_toArray, List.set_cons_zero, List.set_cons_succ, i64_w, i32_w]
                                              rfl
                                            refine pure_ (i := 3) (N := some 148) (v := ?_) (a' := ?_) #[true, true, true, true, false, false, false, false, false, false, false, false, false, false] rfl rfl (any_of HT_.out (by kernel_rfl)) (fun _ _ _ h => h) (Or.inl ⟨by rfl, ?_⟩) ?_ ?_
                                            rotate_left
                                            · intro w'
                                              go_simp
                                              with_reducible rfl
                                            rotate_left
                                            · simp only [Act.put, List.setIfInBounds_toArray, List.set_cons_zero, List.set_cons_succ, i64_w, i32_w]
                                              rfl
                                            refine pure_ (i := 4) (N := some 149) (v := ?_) (a' := ?_) #[true, true, true, true, true, false, false, false, false, false, false, false, false, false] rfl rfl (any_of HT_.out (by kernel_rfl)) (fun _ _ _ h => h) (Or.inl ⟨by rfl, ?_⟩) ?_ ?_
                                            rotate_left
                                            · intro w'
                                              go_simp
                                              with_reducible rfl
                                            rotate_left
                                            · simp only [Act.put, List.setIfInBounds_toArray, List.set_cons_zero, List.set_cons_succ, i64_w, i32_w]
                                              rfl
                                            refine pure_ (i := 5) (N := some 150) (v := ?_) (a' := ?_) #[true, true, true, true, true, true, false, false, false, false, false, false, false, false] rfl rfl (any_of HT_.out (by kernel_rfl)) (fun _ _ _ h => h) (Or.inl ⟨by rfl, ?_⟩) ?_ ?_
                                            rotate_left
                                            · intro w'
                                              go_simp
                                              with_reducible rfl
                                            rotate_left
                                            · simp only [Act.put, List.setIfInBounds_toArray, List.set_cons_zero, List.set_cons_succ, i64_w, i32_w]
                                              rfl
                                            refine pure_ (i := 6) (N := some 151) (v := ?_) (a' := ?_) #[true, true, true, true, true, true, true, false, false, false, false, false, false, false] rfl rfl (any_of HT_.out (by kernel_rfl)) (fun _ _ _ h => h) (Or.inl ⟨by rfl, ?_⟩) ?_ ?_
                                            rotate_left
                                            · intro w'
                                              go_simp
                                              with_reducible rfl
                                            rotate_left
                                            · simp only [Act.put, List.setIfInBounds_toArray, List.set_cons_zero, List.set_cons_succ, i64_w, i32_w]
                                              rfl
                                            refine pure_ (i := 7) (N := some 152) (v := ?_) (a' := ?_) #[true, true, true, true, true, true, true, true, false, false, false, false, false, false] rfl rfl (any_of HT_.out (by kernel_rfl)) (fun _ _ _ h => h) (Or.inl ⟨by rfl, ?_⟩) ?_ ?_
                                            rotate_left
                                            · intro w'
                                              go_simp
                                              with_reducible rfl
                                            rotate_left
                                            · simp only [Act.put, List.setIfInBounds_toArray, List.set_cons_zero, List.set_cons_succ, i64_w, i32_w]
                                              rfl
                                            refine pure_ (i := 8) (N := some 153) (v := ?_) (a' := ?_) #[true, true, true, true, true, true, true, true, true, false, false, false, false, false] rfl rfl (any_of HT_.out (by kernel_rfl)) (fun _ _ _ h => h) (Or.inl ⟨by rfl, ?_⟩) ?_ ?_
                                            rotate_left
                                            · intro w'
                                              go_simp
                                              with_reducible rfl
                                            rotate_left
                                            · simp only [Act.put, List.setIfInBounds_toArray, List.set_cons_zero, List.set_cons_succ, i64_w, i32_w]
                                              rfl
                                            refine pure_ (i := 9) (N := some 154) (v := ?_) (a' := ?_) #[true, true, true, true, true, true, true, true, true, true, false, false, false, false] rfl rfl (any_of HT_.out (by kernel_rfl)) (fun _ _ _ h => h) (Or.inl ⟨by rfl, ?_⟩) ?_ ?_
                                            rotate_left
                                            · intro w'
                                              go_simp
                                              with_reducible rfl
                                            rotate_left
                                            · simp only [Act.put, List.setIfInBounds_toArray, List.set_cons_zero, List.set_cons_succ, i64_w, i32_w]
                                              rfl
                                            refine pure_ (i := 10) (N := some 155) (v := ?_) (a' := ?_) #[true, true, true, true, true, true, true, true, true, true, true, false, false, false] rfl rfl (any_of HT_.out (by kernel_rfl)) (fun _ _ _ h => h) (Or.inl ⟨by rfl, ?_⟩) ?_ ?_
                                            rotate_left
                                            · intro w'
                                              go_simp
                                              with_reducible rfl
                                            rotate_left
                                            · simp only [Act.put, List.setIfInBounds_toArray, List.set_cons_zero, List.set_cons_succ, i64_w, i32_w]
                                              rfl
                                            refine pure_ (i := 11) (N := some 156) (v := ?_) (a' := ?_) #[true, true, true, true, true, true, true, true, true, true, true, true, false, false] rfl rfl (any_of HT_.out (by kernel_rfl)) (fun _ _ _ h => h) (Or.inl ⟨by rfl, ?_⟩) ?_ ?_
                                            rotate_left
                                            · intro w'
                                              go_simp
                                              with_reducible rfl
                                            rotate_left
                                            · simp only [Act.put, List.setIfInBounds_toArray, List.set_cons_zero, List.set_cons_succ, i64_w, i32_w]
                                              rfl
                                            refine pure_ (i := 12) (N := some 157) (v := ?_) (a' := ?_) #[true, true, true, true, true, true, true, true, true, true, true, true, true, false] rfl rfl (any_of HT_.out (by kernel_rfl)) (fun _ _ _ h => h) (Or.inl ⟨by rfl, ?_⟩) ?_ ?_
                                            rotate_left
                                            · intro w'
                                              go_simp
                                              with_reducible rfl
                                            rotate_left
                                            · simp only [Act.put, List.setIfInBounds_toArray, List.set_cons_zero, List.set_cons_succ, i64_w, i32_w]
                                              rfl
                                            refine pure_ (i := 13) (N := some 158) (v := ?_) (a' := ?_) #[true, true, true, true, true, true, true, true, true, true, true, true, true, true] rfl rfl (any_of HT_.out (by kernel_rfl)) (fun _ _ _ h => h) (Or.inl ⟨by rfl, ?_⟩) ?_ ?_
                                            rotate_left
                                            · intro w'
                                              go_simp
                                              with_reducible rfl
                                            rotate_left
                                            · simp only [Act.put, List.setIfInBounds_toArray, List.set_cons_zero, List.set_cons_succ, i64_w, i32_w]
                                              rfl
                                            refine done_ (done_of HT_.out (by kernel_rfl)) ?_
                                            try go_wp2
                                            go_meet
                                            case rel => exact ⟨_, ((x14_47 != x15_47)), (by first | rfl | (simp; done) | (simp [*]; done)), H', ⟨by have := HJ2.out; have := HJ10.out; have := HK3.out; have := HJ34.out; have := HJ47.out; first | omega | exact Nat.le_refl _⟩, ⟨by (with_reducible repeat (first | refine blk_drewN ?_ _ | refine blk_drew ?_ | refine blk_alloc ?_ _)); exact BK150.out⟩, ⟨by (with_reducible repeat (first | refine blk_drewN ?_ _ | refine blk_drew ?_ | refine blk_alloc ?_ _)); exact BK151.out⟩, ⟨by (with_reducible repeat (first | refine blk_drewN ?_ _ | refine blk_drew ?_ | refine blk_alloc ?_ _)); exact BK156.out⟩, ⟨by (with_reducible repeat (first | refine blk_drewN ?_ _ | refine blk_drew ?_ | refine blk_alloc ?_ _)); exact BK157.out⟩, ⟨by (with_reducible repeat (first | refine blk_drewN ?_ _ | refine blk_drew ?_ | refine blk_alloc ?_ _)); exact BK158.out⟩, ⟨by repeat (first | (with_reducible first | exact HB.out | apply below_alloc | apply pw_below_drewN | apply below_drew1 | refine below_set ?_ GE150.out | refine below_set ?_ GE151.out | refine below_set ?_ GE156.out | refine below_set ?_ GE157.out | refine below_set ?_ GE158.out) | exact HB.out)⟩⟩
                                      case rest =>
                                        clear HC161
                                        try clear c1
                                        try clear p1
                                        try clear q1
                                        try clear hx1
                                        try clear p2
                                        try clear p15
                                        try clear q15
                                        try clear hx15
                                        try clear c16
                                        try clear p155
                                        try clear q155
                                        try clear hx155
                                        try clear c163
                                        try clear c163b0
                                        try clear c166
                                        try clear c166b0
                                        try clear c166b1
                                        try clear c166b2
                                        try clear hfz118_0
                                        try clear hfz118_1
                                        try clear hfz118_2
                                        try clear hfz126_0
                                        try clear hfz126_1
                                        try clear hfz126_2
                                        try clear hfz130_0
                                        try clear hfz130_1
                                        try clear hfz134_0
                                        try clear hfz134_1
                                        try clear hfz134_2
                                        try clear hfz136_0
                                        try clear hfz136_1
                                        try clear hfz136_2
                                        try clear hfz137_0
                                        try clear hfz137_1
                                        try clear hfz139_0
                                        try clear hfz139_1
                                        try clear hfz139_2
                                        try clear hfz147_0
                                        try clear hfz147_1
                                        try clear hfz147_2
                                        try clear hfz14_0
                                        try clear hfz14_1
                                        try clear hfz14_2
                                        try clear hfz151_0
                                        try clear hfz151_1
                                        try clear hfz155_0
                                        try clear hfz155_1
                                        try clear hfz155_2
                                        try clear hfz157_0
                                        try clear hfz157_1
                                        try clear hfz157_2
                                        try clear hfz158_0
                                        try clear hfz158_1
                                        try clear hfz160_0
                                        try clear hfz160_1
                                        try clear hfz160_2
                                        try clear hfz22_0
                                        try clear hfz22_1
                                        try clear hfz22_2
                                        try clear hfz28_0
                                        try clear hfz28_1
                                        try clear hfz28_2
                                        try clear hfz39_0
                                        try clear hfz39_1
                                        try clear hfz43_0
                                        try clear hfz43_1
                                        try clear hfz46_0
                                        try clear hfz46_1
                                        try clear hfz55_0
                                        try clear hfz55_1
                                        try clear hfz63_0
                                        try clear hfz63_1
                                        try clear hfz63_2
                                        try clear hfz67_0
                                        try clear hfz67_1
                                        try clear hfz71_0
                                        try clear hfz71_1
                                        try clear hfz71_2
                                        try clear hfz73_0
                                        try clear hfz73_1
                                        try clear hfz73_2
                                        try clear hfz74_0
                                        try clear hfz74_1
                                        try clear hfz76_0
                                        try clear hfz76_1
                                        try clear hfz76_2
                                        try clear hfz84_0
                                        try clear hfz84_1
                                        try clear hfz84_2
                                        try clear hfz88_0
                                        try clear hfz88_1
                                        try clear hfz92_0
                                        try clear hfz92_1
                                        try clear hfz92_2
                                        try clear hfz94_0
                                        try clear hfz94_1
                                        try clear hfz94_2
                                        try clear hfz95_0
                                        try clear hfz95_1
                                        try clear hfz97_0
                                        try clear hfz97_1
                                        try clear hfz97_2
                                        try clear hx155_0
                                        try clear hx155_1
                                        try clear p1
                                        try clear p15
                                        try clear p155
                                        try clear p2
                                        try clear q1
                                        try clear q15
                                        try clear q155
                                        obtain ⟨kq, x158_160, rfl, HA, HJ160, BK150, BK151, BK156, BK157, BK158, HB⟩ := hcut
                                        cases kq with
                                        | zero => exact absurd HA.out (by simp [bywashlaw12_WindowPlays.j5])
                                        | succ kj160 =>
                                          have H := HA.out
                                          clear HA
                                          simp only [bywashlaw12_WindowPlays.j5] at H
                                          by_cases c171 : x158_160 = true
                                          · subst c171
                                            have H1 : (some false) = some r := by rw [if_pos rfl] at H; exact H
                                            clear H
                                            have H := H1
                                            clear H1
                                            obtain rfl := Option.some.inj H
                                            go_wp2
                                            go_ret
                                            exact ⟨by first | rfl | (simp [errW_none, errW_some] <;> rfl) | (simp [*, errW_none, errW_some] <;> rfl), by repeat (first | (with_reducible first | exact HB.out | apply below_alloc | apply pw_below_drewN | apply below_drew1 | refine below_set ?_ GE150.out | refine below_set ?_ GE151.out | refine below_set ?_ GE156.out | refine below_set ?_ GE157.out | refine below_set ?_ GE158.out) | exact HB.out)⟩
                                          · replace c171 := Bool.eq_false_iff.mpr c171
                                            subst c171
                                            have H1 : (bywashlaw12_WindowPlays.l0 kj160 l1 (l1.length : Int) (wrap64 (x51_3 + 1)) x158000_47 x158001_47 x158002_47 x159000_47 x159001_47 x159002_47) = some r := by rw [if_neg (show ¬ (false = true) by decide)] at H; exact H
                                            clear H
                                            have H := H1
                                            clear H1
                                            have H' := Aside0.mk H
                                            clear H
                                            try go_wp2
                                            have n0_ := Aside0.mk (blk_drew BK150.out)
                                            have n1_ := Aside0.mk (blk_drew BK151.out)
                                            have n2_ := Aside0.mk (blk_drew BK156.out)
                                            have n3_ := Aside0.mk (blk_drew BK157.out)
                                            have n4_ := Aside0.mk (blk_drew BK158.out)
                                            have n5_ := Aside0.mk (below_drew1 HB.out)
                                            clear BK150
                                            clear BK151
                                            clear BK156
                                            clear BK157
                                            clear BK158
                                            clear HB
                                            have BK150 := n0_
                                            have BK151 := n1_
                                            have BK156 := n2_
                                            have BK157 := n3_
                                            have BK158 := n4_
                                            have HB := n5_
                                            clear n0_ n1_ n2_ n3_ n4_ n5_
                                            refine start_ (n := 4) (S := fun w' => w'.cell? ⟨gb157, 0, none⟩ = some (.int .i64 x158000_47) ∧ w'.cell? ⟨gb157, 1, none⟩ = some (.int .i64 x158001_47) ∧ w'.cell? ⟨gb157, 2, none⟩ = some (.int .i64 x158002_47) ∧ w'.cell? ⟨gb158, 0, none⟩ = some (.int .i64 x159000_47) ∧ w'.cell? ⟨gb158, 1, none⟩ = some (.int .i64 x159001_47) ∧ w'.cell? ⟨gb158, 2, none⟩ = some (.int .i64 x159002_47)) (ds := []) #[false, false, false, false] (by kernel_rfl) rfl rfl ⟨(blk_cell BK157.out 0).trans rfl, (blk_cell BK157.out 1).trans rfl, (blk_cell BK157.out 2).trans rfl, (blk_cell BK158.out 0).trans rfl, (blk_cell BK158.out 1).trans rfl, (blk_cell BK158.out 2).trans rfl⟩ (fun hHeld => ?_)
                                            generalize wc.drew = w172 at BK150 BK151 BK156 BK157 BK158 HB hHeld ⊢
                                            refine take_ (i := 0) (N := some 159) (v := ?_) (a' := ?_) #[true, false, false, false] rfl rfl (by kernel_rfl) (fun _ _ _ h => h) (Or.inl ⟨by rfl, ?_⟩) hHeld ?_ ?_
                                            rotate_left
                                            · rintro w' ⟨s0, s1, s2, s3, s4, s5⟩
                                              go_simp
                                              with_reducible rfl
                                            rotate_left
                                            · simp only [Act.put, List.setIfInBounds_toArray, List.set_cons_zero, List.set_cons_succ, i64_w, i32_w]
                                              rfl
                                            refine take_ (i := 1) (N := some 160) (v := ?_) (a' := ?_) #[true, true, false, false] rfl rfl (by kernel_rfl) (fun _ _ _ h => h) (Or.inl ⟨by rfl, ?_⟩) hHeld ?_ ?_
                                            rotate_left
                                            · rintro w' ⟨s0, s1, s2, s3, s4, s5⟩
                                              go_simp
                                              with_reducible rfl
                                            rotate_left
                                            · simp only [Act.put, List.setIfInBounds_toArray, List.set_cons_zero, List.set_cons_succ, i64_w, i32_w]
                                              rfl
                                            refine one_ (i := 2) (N := none) #[true, true, true, false] rfl rfl (by kernel_rfl) (by decide) (fun K hK => ?_)
                                            have hs173 : w172.cell? ⟨gb150, 0, none⟩ = some (.int .i64 x151000_3) := (blk_cell BK150.out 0).trans rfl
                                            have hfs173 := blk_frozen BK150.out 0
                                            have hns173_1 := NB151_150.out
                                            have hns173_2 := NB156_150.out
                                            have hns173_3 := NB157_150.out
                                            have hns173_4 := NB158_150.out
                                            have hms173_1 := NB150_151.out
                                            have hms173_2 := NB150_156.out
                                            have hms173_3 := NB150_157.out
                                            have hms173_4 := NB150_158.out
                                            have hs174 : w172.cell? ⟨gb150, 1, none⟩ = some (.int .i64 x151001_3) := (blk_cell BK150.out 1).trans rfl
                                            have hfs174 := blk_frozen BK150.out 1
                                            have hns174_1 := NB151_150.out
                                            have hns174_2 := NB156_150.out
                                            have hns174_3 := NB157_150.out
                                            have hns174_4 := NB158_150.out
                                            have hms174_1 := NB150_151.out
                                            have hms174_2 := NB150_156.out
                                            have hms174_3 := NB150_157.out
                                            have hms174_4 := NB150_158.out
                                            have hs175 : w172.cell? ⟨gb150, 2, none⟩ = some (.int .i64 x151002_3) := (blk_cell BK150.out 2).trans rfl
                                            have hfs175 := blk_frozen BK150.out 2
                                            have hns175_1 := NB151_150.out
                                            have hns175_2 := NB156_150.out
                                            have hns175_3 := NB157_150.out
                                            have hns175_4 := NB158_150.out
                                            have hms175_1 := NB150_151.out
                                            have hms175_2 := NB150_156.out
                                            have hms175_3 := NB150_157.out
                                            have hms175_4 := NB150_158.out
                                            refine skip_ (w1 := ?_) (by rfl) rfl ?_ ?_
                                            rotate_left
                                            · go_simp
                                              rfl
                                            refine hK.out _ _ ⟨((cell_far (p := ⟨gb150, _, none⟩) NB157_150.out _).trans (((cell_far (p := ⟨gb150, _, none⟩) NB157_150.out _).trans (((cell_far (p := ⟨gb150, _, none⟩) NB157_150.out _).trans (hHeld.1)))))), ((cell_far (p := ⟨gb150, _, none⟩) NB157_150.out _).trans (((cell_far (p := ⟨gb150, _, none⟩) NB157_150.out _).trans (((cell_far (p := ⟨gb150, _, none⟩) NB157_150.out _).trans (hHeld.2.1)))))), ((cell_far (p := ⟨gb150, _, none⟩) NB157_150.out _).trans (((cell_far (p := ⟨gb150, _, none⟩) NB157_150.out _).trans (((cell_far (p := ⟨gb150, _, none⟩) NB157_150.out _).trans (hHeld.2.2.1)))))), ((cell_far (p := ⟨gb150, _, none⟩) NB158_150.out _).trans (((cell_far (p := ⟨gb150, _, none⟩) NB158_150.out _).trans (((cell_far (p := ⟨gb150, _, none⟩) NB158_150.out _).trans (hHeld.2.2.2.1)))))), ((cell_far (p := ⟨gb150, _, none⟩) NB158_150.out _).trans (((cell_far (p := ⟨gb150, _, none⟩) NB158_150.out _).trans (((cell_far (p := ⟨gb150, _, none⟩) NB158_150.out _).trans (hHeld.2.2.2.2.1)))))), ((cell_far (p := ⟨gb150, _, none⟩) NB158_150.out _).trans (((cell_far (p := ⟨gb150, _, none⟩) NB158_150.out _).trans (((cell_far (p := ⟨gb150, _, none⟩) NB158_150.out _).trans (hHeld.2.2.2.2.2))))))⟩ (fun hHeld => ?_)
                                            clear hK K
                                            refine one_ (i := 3) (N := none) #[true, true, true, true] rfl rfl (by kernel_rfl) (by decide) (fun K hK => ?_)
                                            have hs176 : w172.cell? ⟨gb151, 0, none⟩ = some (.int .i64 x152000_3) := (blk_cell BK151.out 0).trans rfl
                                            have hfs176 := blk_frozen BK151.out 0
                                            have hns176_0 := NB150_151.out
                                            have hns176_2 := NB156_151.out
                                            have hns176_3 := NB157_151.out
                                            have hns176_4 := NB158_151.out
                                            have hms176_0 := NB151_150.out
                                            have hms176_2 := NB151_156.out
                                            have hms176_3 := NB151_157.out
                                            have hms176_4 := NB151_158.out
                                            have hs177 : w172.cell? ⟨gb151, 1, none⟩ = some (.int .i64 x152001_3) := (blk_cell BK151.out 1).trans rfl
                                            have hfs177 := blk_frozen BK151.out 1
                                            have hns177_0 := NB150_151.out
                                            have hns177_2 := NB156_151.out
                                            have hns177_3 := NB157_151.out
                                            have hns177_4 := NB158_151.out
                                            have hms177_0 := NB151_150.out
                                            have hms177_2 := NB151_156.out
                                            have hms177_3 := NB151_157.out
                                            have hms177_4 := NB151_158.out
                                            have hs178 : w172.cell? ⟨gb151, 2, none⟩ = some (.int .i64 x152002_3) := (blk_cell BK151.out 2).trans rfl
                                            have hfs178 := blk_frozen BK151.out 2
                                            have hns178_0 := NB150_151.out
                                            have hns178_2 := NB156_151.out
                                            have hns178_3 := NB157_151.out
                                            have hns178_4 := NB158_151.out
                                            have hms178_0 := NB151_150.out
                                            have hms178_2 := NB151_156.out
                                            have hms178_3 := NB151_157.out
                                            have hms178_4 := NB151_158.out
                                            refine skip_ (w1 := ?_) (by rfl) rfl ?_ ?_
                                            rotate_left
                                            · go_simp
                                              rfl
                                            refine hK.out _ _ ⟨((cell_far (p := ⟨gb151, _, none⟩) NB157_151.out _).trans (((cell_far (p := ⟨gb151, _, none⟩) NB157_151.out _).trans (((cell_far (p := ⟨gb151, _, none⟩) NB157_151.out _).trans (hHeld.1)))))), ((cell_far (p := ⟨gb151, _, none⟩) NB157_151.out _).trans (((cell_far (p := ⟨gb151, _, none⟩) NB157_151.out _).trans (((cell_far (p := ⟨gb151, _, none⟩) NB157_151.out _).trans (hHeld.2.1)))))), ((cell_far (p := ⟨gb151, _, none⟩) NB157_151.out _).trans (((cell_far (p := ⟨gb151, _, none⟩) NB157_151.out _).trans (((cell_far (p := ⟨gb151, _, none⟩) NB157_151.out _).trans (hHeld.2.2.1)))))), ((cell_far (p := ⟨gb151, _, none⟩) NB158_151.out _).trans (((cell_far (p := ⟨gb151, _, none⟩) NB158_151.out _).trans (((cell_far (p := ⟨gb151, _, none⟩) NB158_151.out _).trans (hHeld.2.2.2.1)))))), ((cell_far (p := ⟨gb151, _, none⟩) NB158_151.out _).trans (((cell_far (p := ⟨gb151, _, none⟩) NB158_151.out _).trans (((cell_far (p := ⟨gb151, _, none⟩) NB158_151.out _).trans (hHeld.2.2.2.2.1)))))), ((cell_far (p := ⟨gb151, _, none⟩) NB158_151.out _).trans (((cell_far (p := ⟨gb151, _, none⟩) NB158_151.out _).trans (((cell_far (p := ⟨gb151, _, none⟩) NB158_151.out _).trans (hHeld.2.2.2.2.2))))))⟩ (fun hHeld => ?_)
                                            clear hK K
                                            refine done_ (by kernel_rfl) ?_
                                            try go_wp2
                                            go_roundg kj160
                                            case measure => have := HJ2.out; have := HJ10.out; have := HK3.out; have := HJ34.out; have := HJ47.out; have := HJ160.out; omega
                                            case rel => exact ⟨(wrap64 (x51_3 + 1)), (x158000_47), (x158001_47), (x158002_47), (x159000_47), (x159001_47), (x159002_47), (by first | rfl | (simp; done) | (simp [*]; done)), H', ⟨by have := HJ2.out; have := HJ10.out; have := HK3.out; have := HJ34.out; have := HJ47.out; have := HJ160.out; omega⟩, ⟨by (with_reducible repeat (first | refine blk_drewN ?_ _ | refine blk_drew ?_ | refine blk_alloc ?_ _)); refine blk_far ?_ NB150_151.out _; (with_reducible repeat (first | refine blk_drewN ?_ _ | refine blk_drew ?_ | refine blk_alloc ?_ _)); refine blk_far ?_ NB150_151.out _; (with_reducible repeat (first | refine blk_drewN ?_ _ | refine blk_drew ?_ | refine blk_alloc ?_ _)); refine blk_far ?_ NB150_151.out _; (with_reducible repeat (first | refine blk_drewN ?_ _ | refine blk_drew ?_ | refine blk_alloc ?_ _)); refine blk_put (cs := #[.int .i64 x158000_47, .int .i64 x158001_47, .int .i64 x151002_3]) ?_ 2 _ rfl; (with_reducible repeat (first | refine blk_drewN ?_ _ | refine blk_drew ?_ | refine blk_alloc ?_ _)); refine blk_put (cs := #[.int .i64 x158000_47, .int .i64 x151001_3, .int .i64 x151002_3]) ?_ 1 _ rfl; (with_reducible repeat (first | refine blk_drewN ?_ _ | refine blk_drew ?_ | refine blk_alloc ?_ _)); refine blk_put (cs := #[.int .i64 x151000_3, .int .i64 x151001_3, .int .i64 x151002_3]) ?_ 0 _ rfl; (with_reducible repeat (first | refine blk_drewN ?_ _ | refine blk_drew ?_ | refine blk_alloc ?_ _)); exact BK150.out⟩, ⟨by (with_reducible repeat (first | refine blk_drewN ?_ _ | refine blk_drew ?_ | refine blk_alloc ?_ _)); refine blk_put (cs := #[.int .i64 x159000_47, .int .i64 x159001_47, .int .i64 x152002_3]) ?_ 2 _ rfl; (with_reducible repeat (first | refine blk_drewN ?_ _ | refine blk_drew ?_ | refine blk_alloc ?_ _)); refine blk_put (cs := #[.int .i64 x159000_47, .int .i64 x152001_3, .int .i64 x152002_3]) ?_ 1 _ rfl; (with_reducible repeat (first | refine blk_drewN ?_ _ | refine blk_drew ?_ | refine blk_alloc ?_ _)); refine blk_put (cs := #[.int .i64 x152000_3, .int .i64 x152001_3, .int .i64 x152002_3]) ?_ 0 _ rfl; (with_reducible repeat (first | refine blk_drewN ?_ _ | refine blk_drew ?_ | refine blk_alloc ?_ _)); refine blk_far ?_ NB151_150.out _; (with_reducible repeat (first | refine blk_drewN ?_ _ | refine blk_drew ?_ | refine blk_alloc ?_ _)); refine blk_far ?_ NB151_150.out _; (with_reducible repeat (first | refine blk_drewN ?_ _ | refine blk_drew ?_ | refine blk_alloc ?_ _)); refine blk_far ?_ NB151_150.out _; (with_reducible repeat (first | refine blk_drewN ?_ _ | refine blk_drew ?_ | refine blk_alloc ?_ _)); exact BK151.out⟩, ⟨by repeat (first | (with_reducible first | exact HB.out | apply below_alloc | apply pw_below_drewN | apply below_drew1 | refine below_set ?_ GE150.out | refine below_set ?_ GE151.out | refine below_set ?_ GE156.out | refine below_set ?_ GE157.out | refine below_set ?_ GE158.out) | exact HB.out)⟩⟩
                          · rw [if_neg c34] at H
                            exact absurd H (by simp)
                        · rw [if_neg c33] at H
                          exact absurd H (by simp)
                      · rw [if_neg c32] at H
                        have c32b0 : decide (x51_3 < (l1.length : Int)) = false := decide_eq_false c32
                        clear c32
                        obtain rfl := Option.some.inj H
                        go_wp2
                        go_ret
                        exact ⟨by first | rfl | (simp [errW_none, errW_some] <;> rfl) | (simp [*, errW_none, errW_some] <;> rfl), by repeat (first | (with_reducible first | exact HB.out | apply below_alloc | apply pw_below_drewN | apply below_drew1 | refine below_set ?_ GE150.out | refine below_set ?_ GE151.out) | exact HB.out)⟩
              · replace c17 := Bool.eq_false_iff.mpr c17
                subst c17
                have H1 : (some (t146 == 0 && (t147 == 0 && (t148 == 0)))) = some r := by rw [if_neg (show ¬ (false = true) by decide)] at H; exact H
                clear H
                have H := H1
                clear H1
                obtain rfl := Option.some.inj H
                have hcz179_0 : wc.cell? ⟨gb150, 0, none⟩ = some (.int .i64 t146) := (blk_cell BK150.out 0).trans rfl
                have hcz179_1 : wc.cell? ⟨gb150, 1, none⟩ = some (.int .i64 t147) := (blk_cell BK150.out 1).trans rfl
                have hcz179_2 : wc.cell? ⟨gb150, 2, none⟩ = some (.int .i64 t148) := (blk_cell BK150.out 2).trans rfl
                have hfz179_0 := blk_frozen BK150.out 0
                have hfz179_1 := blk_frozen BK150.out 1
                have hfz179_2 := blk_frozen BK150.out 2
                go_wp2
                go_ret
                exact ⟨by first | rfl | (simp [errW_none, errW_some] <;> rfl) | (simp [*, errW_none, errW_some] <;> rfl), by repeat (first | (with_reducible first | exact HB.out | apply below_alloc | apply pw_below_drewN | apply below_drew1 | refine below_set ?_ GE150.out) | exact HB.out)⟩

end Go.Proofs.Ytodimdhhmifdfaa.PWindowPlays
