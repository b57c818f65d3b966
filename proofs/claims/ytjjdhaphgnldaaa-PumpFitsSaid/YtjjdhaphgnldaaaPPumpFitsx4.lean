-- PRINTED BY print.sh 35421559b90ae4d0a3588c463048766b98c2df88dd9212a6774a882060cdf62d: not written by this session
import Derived.Test.YtjjdhaphgnldaaaPPumpFitsx0
import Derived.Test.YtjjdhaphgnldaaaPPumpFitsx2
import Derived.Test.YtjjdhaphgnldaaaPPumpFitsx3
namespace Go.Proofs.Ytjjdhaphgnldaaa.PPumpFits
open Go.RowKit Go.Proofs.YtjjdhaphgnldaaaW.PrintWords Go.Proofs.YtjjdhaphgnldaaaW.PrintLast Go.Proofs.YtjjdhaphgnldaaaW.PrintMore
attribute [local go_sem] max2_int min2_int max_two min_two max_three min_three max_four min_four   -- for this text's walks alone
set_option linter.unusedVariables false
set_option linter.unusedSimpArgs false

/-! ### bywashlaw16_PumpFits: function 4 -/
mutual
def bywashlaw16_PumpFits.j0 : Nat → Int → Int → List (S26) → Bool → Option (Bool)
  | 0, _, _, _, _ => none
  | k + 1, x0, x1, x2, x23 => if x23 = true then ((bywashlaw16_alive.f k).bind fun t127 => (some t127)) else (bywashlaw16_PumpFits.l0 k x0 x1 x2 1)
def bywashlaw16_PumpFits.l0 : Nat → Int → Int → List (S26) → Int → Option (Bool)
  | 0, _, _, _, _ => none
  | k + 1, x0, x1, x2, x7 => if x7 < (x2.length : Int) then (if 0 ≤ x7 then (if 0 ≤ (wrap64 (x7 - 1)) then (if (wrap64 (x7 - 1)) < (x2.length : Int) then (if ((rd_T26 x2 x7).f0) ≤ ((rd_T26 x2 (wrap64 (x7 - 1))).f0) then (some true) else (bywashlaw16_PumpFits.l0 k x0 x1 x2 (wrap64 (x7 + 1)))) else (none)) else (none)) else (none)) else ((pump_Plan.f k x0 x1 x2).bind fun t130 => (bywashlaw16_PumpFits.l1 k x1 0 t130 x0 x2 (x2.length : Int) 0))
def bywashlaw16_PumpFits.l1 : Nat → Int → Int → List (S34) → Int → List (S26) → Int → Int → Option (Bool)
  | 0, _, _, _, _, _, _, _ => none
  | k + 1, x1, x8, x9, x10, x48, x49, x50 => if x50 < x49 then (if 0 ≤ x50 then (if x50 < (x48.length : Int) then (bywashlaw16_PumpFits.l2 k x1 x8 x9 x10 0 false x48 x49 x50 ((rd_T26 x48 x50).f0) ((rd_T26 x48 x50).f1) ((rd_T26 x48 x50).f2) ((rd_T26 x48 x50).f3)) else (none)) else (none)) else (some (x8 == (x9.length : Int)))
def bywashlaw16_PumpFits.j6 : Nat → Int → Int → List (S34) → Int → Int → Bool → List (S26) → Int → Int → Int → Int → Int → Bool → Option (Bool)
  | 0, _, _, _, _, _, _, _, _, _, _, _, _, _ => none
  | k + 1, x1, x8, x9, x10, x13, x14, x48, x49, x50, x135000, x135001, x135002, x135003 => if x1 < 1 then (if x13 = 0 then (if x135003 = true then (if (x14 != (x13 == x135002)) = true then (some false) else (bywashlaw16_PumpFits.l1 k x1 x8 x9 (wrap64 (x10 - x13)) x48 x49 (wrap64 (x50 + 1)))) else (if (x14 != false) = true then (some false) else (bywashlaw16_PumpFits.l1 k x1 x8 x9 (wrap64 (x10 - x13)) x48 x49 (wrap64 (x50 + 1))))) else (some false)) else (if x13 = (mx (mn (mn x135002 x135001) x10) 0) then (if x135003 = true then (if (x14 != (x13 == x135002)) = true then (some false) else (bywashlaw16_PumpFits.l1 k x1 x8 x9 (wrap64 (x10 - x13)) x48 x49 (wrap64 (x50 + 1)))) else (if (x14 != false) = true then (some false) else (bywashlaw16_PumpFits.l1 k x1 x8 x9 (wrap64 (x10 - x13)) x48 x49 (wrap64 (x50 + 1))))) else (some false))
def bywashlaw16_PumpFits.l2 : Nat → Int → Int → List (S34) → Int → Int → Bool → List (S26) → Int → Int → Int → Int → Int → Bool → Option (Bool)
  | 0, _, _, _, _, _, _, _, _, _, _, _, _, _ => none
  | k + 1, x1, x8, x9, x10, x13, x14, x48, x49, x50, x135000, x135001, x135002, x135003 => if x8 < (x9.length : Int) then (if 0 ≤ x8 then (if ((rd_T34 x9 x8).f0) = x135000 then (if x14 = true then (bywashlaw16_PumpFits.j4 k x1 x8 x9 x10 x13 x14 x48 x49 x50 false x135000 x135001 x135002 x135003) else (if ((rd_T34 x9 x8).f1) > 0 then (bywashlaw16_PumpFits.j4 k x1 x8 x9 x10 x13 x14 x48 x49 x50 true x135000 x135001 x135002 x135003) else (bywashlaw16_PumpFits.j4 k x1 x8 x9 x10 x13 x14 x48 x49 x50 (x135002 == 0) x135000 x135001 x135002 x135003))) else (bywashlaw16_PumpFits.j4 k x1 x8 x9 x10 x13 x14 x48 x49 x50 false x135000 x135001 x135002 x135003)) else (none)) else (bywashlaw16_PumpFits.j4 k x1 x8 x9 x10 x13 x14 x48 x49 x50 false x135000 x135001 x135002 x135003)
def bywashlaw16_PumpFits.j4 : Nat → Int → Int → List (S34) → Int → Int → Bool → List (S26) → Int → Int → Bool → Int → Int → Int → Bool → Option (Bool)
  | 0, _, _, _, _, _, _, _, _, _, _, _, _, _, _ => none
  | k + 1, x1, x8, x9, x10, x13, x14, x48, x49, x50, x84, x135000, x135001, x135002, x135003 => if x84 = true then (if 0 ≤ x8 then (if x8 < (x9.length : Int) then (if ((rd_T34 x9 x8).f1) < 0 then (bywashlaw16_PumpFits.j5 k x1 x8 x9 x10 x13 x48 x49 x50 true x135000 x135001 x135002 x135003) else (bywashlaw16_PumpFits.j5 k x1 x8 x9 x10 x13 x48 x49 x50 (decide (((rd_T34 x9 x8).f1) > (mx x1 0))) x135000 x135001 x135002 x135003)) else (none)) else (none)) else (bywashlaw16_PumpFits.j6 k x1 x8 x9 x10 x13 x14 x48 x49 x50 x135000 x135001 x135002 x135003)
def bywashlaw16_PumpFits.j5 : Nat → Int → Int → List (S34) → Int → Int → List (S26) → Int → Int → Bool → Int → Int → Int → Bool → Option (Bool)
  | 0, _, _, _, _, _, _, _, _, _, _, _, _, _ => none
  | k + 1, x1, x8, x9, x10, x13, x48, x49, x50, x100, x135000, x135001, x135002, x135003 => if x100 = true then (some false) else (if 0 ≤ x8 then (if x8 < (x9.length : Int) then (if x135002 = 0 then (bywashlaw16_PumpFits.j6 k x1 (wrap64 (x8 + 1)) x9 x10 (wrap64 (x13 + ((rd_T34 x9 x8).f1))) ((rd_T34 x9 x8).f2) x48 x49 x50 x135000 x135001 x135002 x135003) else (if (wrap64 (x13 + ((rd_T34 x9 x8).f1))) = (mn (mn x135002 x135001) x10) then (bywashlaw16_PumpFits.j6 k x1 (wrap64 (x8 + 1)) x9 x10 (wrap64 (x13 + ((rd_T34 x9 x8).f1))) ((rd_T34 x9 x8).f2) x48 x49 x50 x135000 x135001 x135002 x135003) else (bywashlaw16_PumpFits.l2 k x1 (wrap64 (x8 + 1)) x9 x10 (wrap64 (x13 + ((rd_T34 x9 x8).f1))) ((rd_T34 x9 x8).f2) x48 x49 x50 x135000 x135001 x135002 x135003))) else (none)) else (none))
end
def bywashlaw16_PumpFits.f (k : Nat) (a0 : Int) (a1 : Int) (l2 : List (S26)) : Option (Bool) := (bywashlaw16_Light.f k a1 l2).bind fun t125 => (if t125 = true then ((bywashlaw16_alive.f k).bind fun t126 => (bywashlaw16_PumpFits.j0 k a0 a1 l2 (!t126))) else (bywashlaw16_PumpFits.j0 k a0 a1 l2 true))
theorem bywashlaw16_PumpFits.mono_l : ∀ k, (∀ y0 y1 y2 y3, LeO (bywashlaw16_PumpFits.j0 k y0 y1 y2 y3) (bywashlaw16_PumpFits.j0 (k + 1) y0 y1 y2 y3)) ∧ (∀ y0 y1 y2 y3, LeO (bywashlaw16_PumpFits.l0 k y0 y1 y2 y3) (bywashlaw16_PumpFits.l0 (k + 1) y0 y1 y2 y3)) ∧ (∀ y0 y1 y2 y3 y4 y5 y6, LeO (bywashlaw16_PumpFits.l1 k y0 y1 y2 y3 y4 y5 y6) (bywashlaw16_PumpFits.l1 (k + 1) y0 y1 y2 y3 y4 y5 y6)) ∧ (∀ y0 y1 y2 y3 y4 y5 y6 y7 y8 y9 y10 y11 y12, LeO (bywashlaw16_PumpFits.j6 k y0 y1 y2 y3 y4 y5 y6 y7 y8 y9 y10 y11 y12) (bywashlaw16_PumpFits.j6 (k + 1) y0 y1 y2 y3 y4 y5 y6 y7 y8 y9 y10 y11 y12)) ∧ (∀ y0 y1 y2 y3 y4 y5 y6 y7 y8 y9 y10 y11 y12, LeO (bywashlaw16_PumpFits.l2 k y0 y1 y2 y3 y4 y5 y6 y7 y8 y9 y10 y11 y12) (bywashlaw16_PumpFits.l2 (k + 1) y0 y1 y2 y3 y4 y5 y6 y7 y8 y9 y10 y11 y12)) ∧ (∀ y0 y1 y2 y3 y4 y5 y6 y7 y8 y9 y10 y11 y12 y13, LeO (bywashlaw16_PumpFits.j4 k y0 y1 y2 y3 y4 y5 y6 y7 y8 y9 y10 y11 y12 y13) (bywashlaw16_PumpFits.j4 (k + 1) y0 y1 y2 y3 y4 y5 y6 y7 y8 y9 y10 y11 y12 y13)) ∧ (∀ y0 y1 y2 y3 y4 y5 y6 y7 y8 y9 y10 y11 y12, LeO (bywashlaw16_PumpFits.j5 k y0 y1 y2 y3 y4 y5 y6 y7 y8 y9 y10 y11 y12) (bywashlaw16_PumpFits.j5 (k + 1) y0 y1 y2 y3 y4 y5 y6 y7 y8 y9 y10 y11 y12))
  | 0 => ⟨fun _ _ _ _ r h => by simp [bywashlaw16_PumpFits.j0] at h, fun _ _ _ _ r h => by simp [bywashlaw16_PumpFits.l0] at h, fun _ _ _ _ _ _ _ r h => by simp [bywashlaw16_PumpFits.l1] at h, fun _ _ _ _ _ _ _ _ _ _ _ _ _ r h => by simp [bywashlaw16_PumpFits.j6] at h, fun _ _ _ _ _ _ _ _ _ _ _ _ _ r h => by simp [bywashlaw16_PumpFits.l2] at h, fun _ _ _ _ _ _ _ _ _ _ _ _ _ _ r h => by simp [bywashlaw16_PumpFits.j4] at h, fun _ _ _ _ _ _ _ _ _ _ _ _ _ r h => by simp [bywashlaw16_PumpFits.j5] at h⟩
  | k + 1 => by
    obtain ⟨ih0, ih1, ih2, ih3, ih4, ih5, ih6⟩ := bywashlaw16_PumpFits.mono_l k
    refine ⟨?_, ?_, ?_, ?_, ?_, ?_, ?_⟩
    · intro y0 y1 y2 y3
      unfold bywashlaw16_PumpFits.j0
      repeat' first
      | (with_reducible exact ih0 _ _ _ _)
      | (with_reducible exact ih1 _ _ _ _)
      | (with_reducible exact ih2 _ _ _ _ _ _ _)
      | (with_reducible exact ih3 _ _ _ _ _ _ _ _ _ _ _ _ _)
      | (with_reducible exact ih4 _ _ _ _ _ _ _ _ _ _ _ _ _)
      | (with_reducible exact ih5 _ _ _ _ _ _ _ _ _ _ _ _ _ _)
      | (with_reducible exact ih6 _ _ _ _ _ _ _ _ _ _ _ _ _)
      | (with_reducible exact bywashlaw16_Light.mono _ _ _)
      | (with_reducible exact bywashlaw16_alive.mono _)
      | (with_reducible exact pump_Plan.mono _ _ _ _)
      | (with_reducible exact LeO.refl _)
      | (with_reducible exact LeO.none _)
      | (with_reducible refine LeO.ite ?_ ?_)
      | (with_reducible refine LeO.bind ?_ (fun _ => ?_))
      | exact ih0 _ _ _ _
      | exact ih1 _ _ _ _
      | exact ih2 _ _ _ _ _ _ _
      | exact ih3 _ _ _ _ _ _ _ _ _ _ _ _ _
      | exact ih4 _ _ _ _ _ _ _ _ _ _ _ _ _
      | exact ih5 _ _ _ _ _ _ _ _ _ _ _ _ _ _
      | exact ih6 _ _ _ _ _ _ _ _ _ _ _ _ _
      | exact bywashlaw16_Light.mono _ _ _
      | exact bywashlaw16_alive.mono _
      | exact pump_Plan.mono _ _ _ _
      | exact LeO.none _
      | refine LeO.ite ?_ ?_
      | refine LeO.bind ?_ (fun _ => ?_)
    · intro y0 y1 y2 y3
      unfold bywashlaw16_PumpFits.l0
      repeat' first
      | (with_reducible exact ih0 _ _ _ _)
      | (with_reducible exact ih1 _ _ _ _)
      | (with_reducible exact ih2 _ _ _ _ _ _ _)
      | (with_reducible exact ih3 _ _ _ _ _ _ _ _ _ _ _ _ _)
      | (with_reducible exact ih4 _ _ _ _ _ _ _ _ _ _ _ _ _)
      | (with_reducible exact ih5 _ _ _ _ _ _ _ _ _ _ _ _ _ _)
      | (with_reducible exact ih6 _ _ _ _ _ _ _ _ _ _ _ _ _)
      | (with_reducible exact bywashlaw16_Light.mono _ _ _)
      | (with_reducible exact bywashlaw16_alive.mono _)
      | (with_reducible exact pump_Plan.mono _ _ _ _)
      | (with_reducible exact LeO.refl _)
      | (with_reducible exact LeO.none _)
      | (with_reducible refine LeO.ite ?_ ?_)
      | (with_reducible refine LeO.bind ?_ (fun _ => ?_))
      | exact ih0 _ _ _ _
      | exact ih1 _ _ _ _
      | exact ih2 _ _ _ _ _ _ _
      | exact ih3 _ _ _ _ _ _ _ _ _ _ _ _ _
      | exact ih4 _ _ _ _ _ _ _ _ _ _ _ _ _
      | exact ih5 _ _ _ _ _ _ _ _ _ _ _ _ _ _
      | exact ih6 _ _ _ _ _ _ _ _ _ _ _ _ _
      | exact bywashlaw16_Light.mono _ _ _
      | exact bywashlaw16_alive.mono _
      | exact pump_Plan.mono _ _ _ _
      | exact LeO.none _
      | refine LeO.ite ?_ ?_
      | refine LeO.bind ?_ (fun _ => ?_)
    · intro y0 y1 y2 y3 y4 y5 y6
      unfold bywashlaw16_PumpFits.l1
      repeat' first
      | (with_reducible exact ih0 _ _ _ _)
      | (with_reducible exact ih1 _ _ _ _)
      | (with_reducible exact ih2 _ _ _ _ _ _ _)
      | (with_reducible exact ih3 _ _ _ _ _ _ _ _ _ _ _ _ _)
      | (with_reducible exact ih4 _ _ _ _ _ _ _ _ _ _ _ _ _)
      | (with_reducible exact ih5 _ _ _ _ _ _ _ _ _ _ _ _ _ _)
      | (with_reducible exact ih6 _ _ _ _ _ _ _ _ _ _ _ _ _)
      | (with_reducible exact bywashlaw16_Light.mono _ _ _)
      | (with_reducible exact bywashlaw16_alive.mono _)
      | (with_reducible exact pump_Plan.mono _ _ _ _)
      | (with_reducible exact LeO.refl _)
      | (with_reducible exact LeO.none _)
      | (with_reducible refine LeO.ite ?_ ?_)
      | (with_reducible refine LeO.bind ?_ (fun _ => ?_))
      | exact ih0 _ _ _ _
      | exact ih1 _ _ _ _
      | exact ih2 _ _ _ _ _ _ _
      | exact ih3 _ _ _ _ _ _ _ _ _ _ _ _ _
      | exact ih4 _ _ _ _ _ _ _ _ _ _ _ _ _
      | exact ih5 _ _ _ _ _ _ _ _ _ _ _ _ _ _
      | exact ih6 _ _ _ _ _ _ _ _ _ _ _ _ _
      | exact bywashlaw16_Light.mono _ _ _
      | exact bywashlaw16_alive.mono _
      | exact pump_Plan.mono _ _ _ _
      | exact LeO.none _
      | refine LeO.ite ?_ ?_
      | refine LeO.bind ?_ (fun _ => ?_)
    · intro y0 y1 y2 y3 y4 y5 y6 y7 y8 y9 y10 y11 y12
      unfold bywashlaw16_PumpFits.j6
      repeat' first
      | (with_reducible exact ih0 _ _ _ _)
      | (with_reducible exact ih1 _ _ _ _)
      | (with_reducible exact ih2 _ _ _ _ _ _ _)
      | (with_reducible exact ih3 _ _ _ _ _ _ _ _ _ _ _ _ _)
      | (with_reducible exact ih4 _ _ _ _ _ _ _ _ _ _ _ _ _)
      | (with_reducible exact ih5 _ _ _ _ _ _ _ _ _ _ _ _ _ _)
      | (with_reducible exact ih6 _ _ _ _ _ _ _ _ _ _ _ _ _)
      | (with_reducible exact bywashlaw16_Light.mono _ _ _)
      | (with_reducible exact bywashlaw16_alive.mono _)
      | (with_reducible exact pump_Plan.mono _ _ _ _)
      | (with_reducible exact LeO.refl _)
      | (with_reducible exact LeO.none _)
      | (with_reducible refine LeO.ite ?_ ?_)
      | (with_reducible refine LeO.bind ?_ (fun _ => ?_))
      | exact ih0 _ _ _ _
      | exact ih1 _ _ _ _
      | exact ih2 _ _ _ _ _ _ _
      | exact ih3 _ _ _ _ _ _ _ _ _ _ _ _ _
      | exact ih4 _ _ _ _ _ _ _ _ _ _ _ _ _
      | exact ih5 _ _ _ _ _ _ _ _ _ _ _ _ _ _
      | exact ih6 _ _ _ _ _ _ _ _ _ _ _ _ _
      | exact bywashlaw16_Light.mono _ _ _
      | exact bywashlaw16_alive.mono _
      | exact pump_Plan.mono _ _ _ _
      | exact LeO.none _
      | refine LeO.ite ?_ ?_
      | refine LeO.bind ?_ (fun _ => ?_)
    · intro y0 y1 y2 y3 y4 y5 y6 y7 y8 y9 y10 y11 y12
      unfold bywashlaw16_PumpFits.l2
      repeat' first
      | (with_reducible exact ih0 _ _ _ _)
      | (with_reducible exact ih1 _ _ _ _)
      | (with_reducible exact ih2 _ _ _ _ _ _ _)
      | (with_reducible exact ih3 _ _ _ _ _ _ _ _ _ _ _ _ _)
      | (with_reducible exact ih4 _ _ _ _ _ _ _ _ _ _ _ _ _)
      | (with_reducible exact ih5 _ _ _ _ _ _ _ _ _ _ _ _ _ _)
      | (with_reducible exact ih6 _ _ _ _ _ _ _ _ _ _ _ _ _)
      | (with_reducible exact bywashlaw16_Light.mono _ _ _)
      | (with_reducible exact bywashlaw16_alive.mono _)
      | (with_reducible exact pump_Plan.mono _ _ _ _)
      | (with_reducible exact LeO.refl _)
      | (with_reducible exact LeO.none _)
      | (with_reducible refine LeO.ite ?_ ?_)
      | (with_reducible refine LeO.bind ?_ (fun _ => ?_))
      | exact ih0 _ _ _ _
      | exact ih1 _ _ _ _
      | exact ih2 _ _ _ _ _ _ _
      | exact ih3 _ _ _ _ _ _ _ _ _ _ _ _ _
      | exact ih4 _ _ _ _ _ _ _ _ _ _ _ _ _
      | exact ih5 _ _ _ _ _ _ _ _ _ _ _ _ _ _
      | exact ih6 _ _ _ _ _ _ _ _ _ _ _ _ _
      | exact bywashlaw16_Light.mono _ _ _
      | exact bywashlaw16_alive.mono _
      | exact pump_Plan.mono _ _ _ _
      | exact LeO.none _
      | refine LeO.ite ?_ ?_
      | refine LeO.bind ?_ (fun _ => ?_)
    · intro y0 y1 y2 y3 y4 y5 y6 y7 y8 y9 y10 y11 y12 y13
      unfold bywashlaw16_PumpFits.j4
      repeat' first
      | (with_reducible exact ih0 _ _ _ _)
      | (with_reducible exact ih1 _ _ _ _)
      | (with_reducible exact ih2 _ _ _ _ _ _ _)
      | (with_reducible exact ih3 _ _ _ _ _ _ _ _ _ _ _ _ _)
      | (with_reducible exact ih4 _ _ _ _ _ _ _ _ _ _ _ _ _)
      | (with_reducible exact ih5 _ _ _ _ _ _ _ _ _ _ _ _ _ _)
      | (with_reducible exact ih6 _ _ _ _ _ _ _ _ _ _ _ _ _)
      | (with_reducible exact bywashlaw16_Light.mono _ _ _)
      | (with_reducible exact bywashlaw16_alive.mono _)
      | (with_reducible exact pump_Plan.mono _ _ _ _)
      | (with_reducible exact LeO.refl _)
      | (with_reducible exact LeO.none _)
      | (with_reducible refine LeO.ite ?_ ?_)
      | (with_reducible refine LeO.bind ?_ (fun _ => ?_))
      | exact ih0 _ _ _ _
      | exact ih1 _ _ _ _
      | exact ih2 _ _ _ _ _ _ _
      | exact ih3 _ _ _ _ _ _ _ _ _ _ _ _ _
      | exact ih4 _ _ _ _ _ _ _ _ _ _ _ _ _
      | exact ih5 _ _ _ _ _ _ _ _ _ _ _ _ _ _
      | exact ih6 _ _ _ _ _ _ _ _ _ _ _ _ _
      | exact bywashlaw16_Light.mono _ _ _
      | exact bywashlaw16_alive.mono _
      | exact pump_Plan.mono _ _ _ _
      | exact LeO.none _
      | refine LeO.ite ?_ ?_
      | refine LeO.bind ?_ (fun _ => ?_)
    · intro y0 y1 y2 y3 y4 y5 y6 y7 y8 y9 y10 y11 y12
      unfold bywashlaw16_PumpFits.j5
      repeat' first
      | (with_reducible exact ih0 _ _ _ _)
      | (with_reducible exact ih1 _ _ _ _)
      | (with_reducible exact ih2 _ _ _ _ _ _ _)
      | (with_reducible exact ih3 _ _ _ _ _ _ _ _ _ _ _ _ _)
      | (with_reducible exact ih4 _ _ _ _ _ _ _ _ _ _ _ _ _)
      | (with_reducible exact ih5 _ _ _ _ _ _ _ _ _ _ _ _ _ _)
      | (with_reducible exact ih6 _ _ _ _ _ _ _ _ _ _ _ _ _)
      | (with_reducible exact bywashlaw16_Light.mono _ _ _)
      | (with_reducible exact bywashlaw16_alive.mono _)
      | (with_reducible exact pump_Plan.mono _ _ _ _)
      | (with_reducible exact LeO.refl _)
      | (with_reducible exact LeO.none _)
      | (with_reducible refine LeO.ite ?_ ?_)
      | (with_reducible refine LeO.bind ?_ (fun _ => ?_))
      | exact ih0 _ _ _ _
      | exact ih1 _ _ _ _
      | exact ih2 _ _ _ _ _ _ _
      | exact ih3 _ _ _ _ _ _ _ _ _ _ _ _ _
      | exact ih4 _ _ _ _ _ _ _ _ _ _ _ _ _
      | exact ih5 _ _ _ _ _ _ _ _ _ _ _ _ _ _
      | exact ih6 _ _ _ _ _ _ _ _ _ _ _ _ _
      | exact bywashlaw16_Light.mono _ _ _
      | exact bywashlaw16_alive.mono _
      | exact pump_Plan.mono _ _ _ _
      | exact LeO.none _
      | refine LeO.ite ?_ ?_
      | refine LeO.bind ?_ (fun _ => ?_)
theorem bywashlaw16_PumpFits.mono : ∀ a0 a1 a2 k, LeO (bywashlaw16_PumpFits.f k a0 a1 a2) (bywashlaw16_PumpFits.f (k + 1) a0 a1 a2) := by
  intro a0 a1 a2 k
  obtain ⟨ih0, ih1, ih2, ih3, ih4, ih5, ih6⟩ := bywashlaw16_PumpFits.mono_l k
  unfold bywashlaw16_PumpFits.f
  repeat' first
      | (with_reducible exact ih0 _ _ _ _)
      | (with_reducible exact ih1 _ _ _ _)
      | (with_reducible exact ih2 _ _ _ _ _ _ _)
      | (with_reducible exact ih3 _ _ _ _ _ _ _ _ _ _ _ _ _)
      | (with_reducible exact ih4 _ _ _ _ _ _ _ _ _ _ _ _ _)
      | (with_reducible exact ih5 _ _ _ _ _ _ _ _ _ _ _ _ _ _)
      | (with_reducible exact ih6 _ _ _ _ _ _ _ _ _ _ _ _ _)
      | (with_reducible exact bywashlaw16_Light.mono _ _ _)
      | (with_reducible exact bywashlaw16_alive.mono _)
      | (with_reducible exact pump_Plan.mono _ _ _ _)
      | (with_reducible exact LeO.refl _)
      | (with_reducible exact LeO.none _)
      | (with_reducible refine LeO.ite ?_ ?_)
      | (with_reducible refine LeO.bind ?_ (fun _ => ?_))
      | exact ih0 _ _ _ _
      | exact ih1 _ _ _ _
      | exact ih2 _ _ _ _ _ _ _
      | exact ih3 _ _ _ _ _ _ _ _ _ _ _ _ _
      | exact ih4 _ _ _ _ _ _ _ _ _ _ _ _ _
      | exact ih5 _ _ _ _ _ _ _ _ _ _ _ _ _ _
      | exact ih6 _ _ _ _ _ _ _ _ _ _ _ _ _
      | exact bywashlaw16_Light.mono _ _ _
      | exact bywashlaw16_alive.mono _
      | exact pump_Plan.mono _ _ _ _
      | exact LeO.none _
      | refine LeO.ite ?_ ?_
      | refine LeO.bind ?_ (fun _ => ?_)
set_option maxHeartbeats 8000000 in
set_option maxRecDepth 100000 in
theorem bywashlaw16_PumpFits.calls (k : Nat) (a0 : Int) (a1 : Int) (A2 : Option Addr) (c2 : Nat) (l2 : List (S26)) (r : Bool) (w : World) (hr2 : Kd.C k26 w A2 l2.length l2) (hc2 : l2.length ≤ c2) (h : bywashlaw16_PumpFits.f k a0 a1 l2 = some r) :
    Calls Try.prog 4 #[.int .i64 a0, .int .i64 a1, .slice A2 l2.length c2] w fun e w' => e = .returned (.bool r) ∧ Below w.heap.size w w' := by
  have hu26 := Try.underlying26
  have HR2 := Aside0.mk hr2
  have HC2 := Aside0.mk hc2
  clear hr2 hc2
  have HB := Aside0.mk (Below.refl w.heap.size w)
  have H : ((bywashlaw16_Light.f k a1 l2).bind fun t125 => (if t125 = true then ((bywashlaw16_alive.f k).bind fun t126 => (bywashlaw16_PumpFits.j0 k a0 a1 l2 (!t126))) else (bywashlaw16_PumpFits.j0 k a0 a1 l2 true))) = some r := h
  clear h
  have HC4 := Aside0.mk H
  clear H
  go_enter Try.func4, Try.ntmps4
  go_upto_region 1 with (fail)
  repeat (go_quiet (fail); go_upto_region 1 with (fail))
  go_cut [23] (fun v23 wc => ∃ (kq : Nat) (x23_3 : Bool), v23 = .bool x23_3 ∧ Aside0 (bywashlaw16_PumpFits.j0 kq a0 a1 l2 x23_3 = some r) ∧ Aside0 (kq ≤ k) ∧ Aside0 (Below w.heap.size w wc))
  case first =>
    have H := HC4.out
    clear HC4
    replace H := Option.bind_eq_some_iff.mp H
    obtain ⟨t125, A50, H⟩ := H
    replace H : (if t125 = true then ((bywashlaw16_alive.f k).bind fun t126 => (bywashlaw16_PumpFits.j0 k a0 a1 l2 (!t126))) else (bywashlaw16_PumpFits.j0 k a0 a1 l2 true)) = some r := H
    have A5 := Aside0.mk A50
    clear A50
    by_cases c6 : t125 = true
    · subst c6
      have H1 : ((bywashlaw16_alive.f k).bind fun t126 => (bywashlaw16_PumpFits.j0 k a0 a1 l2 (!t126))) = some r := by rw [if_pos rfl] at H; exact H
      clear H
      have H := H1
      clear H1
      replace H := Option.bind_eq_some_iff.mp H
      obtain ⟨t126, A70, H⟩ := H
      replace H : (bywashlaw16_PumpFits.j0 k a0 a1 l2 (!t126)) = some r := H
      have A7 := Aside0.mk A70
      clear A70
      have H' := Aside0.mk H
      clear H
      go_wp2_with (first | (go_at_call 8; (with_reducible refine (bywashlaw16_Light.calls k a1 _ _ l2 true _ ?side1 ?side2 A5.out).mono ?_); (case side1 => repeat (first | exact (Kd.C_below HR2.out HB.out) | (with_reducible refine Kd.C_alloc ?_ _) | (with_reducible refine Kd.C_drewN ?_ _) | (with_reducible refine Kd.C_drew ?_))); (case side2 => exact HC2.out); rintro e w8 ⟨rfl, hb⟩; have n0_ := Aside0.mk (below_step (by repeat (first | (with_reducible first | exact HB.out | apply below_alloc | apply pw_below_drewN | apply below_drew1) | exact HB.out)) hb); clear HB; have HB := n0_; clear n0_; (try clear hb); (try clear hb2); (try clear hk); (try clear hi)) | (go_at_call 9; (with_reducible refine (bywashlaw16_alive.calls k  t126 _ A7.out).mono ?_); rintro e w9 ⟨rfl, hb⟩; have n0_ := Aside0.mk (below_step (by repeat (first | (with_reducible first | exact HB.out | apply below_alloc | apply pw_below_drewN | apply below_drew1) | exact HB.out)) hb); clear HB; have HB := n0_; clear n0_; (try clear hb); (try clear hb2); (try clear hk); (try clear hi)))
      repeat (go_quiet (first | (go_at_call 8; (with_reducible refine (bywashlaw16_Light.calls k a1 _ _ l2 true _ ?side1 ?side2 A5.out).mono ?_); (case side1 => repeat (first | exact (Kd.C_below HR2.out HB.out) | (with_reducible refine Kd.C_alloc ?_ _) | (with_reducible refine Kd.C_drewN ?_ _) | (with_reducible refine Kd.C_drew ?_))); (case side2 => exact HC2.out); rintro e w8 ⟨rfl, hb⟩; have n0_ := Aside0.mk (below_step (by repeat (first | (with_reducible first | exact HB.out | apply below_alloc | apply pw_below_drewN | apply below_drew1) | exact HB.out)) hb); clear HB; have HB := n0_; clear n0_; (try clear hb); (try clear hb2); (try clear hk); (try clear hi)) | (go_at_call 9; (with_reducible refine (bywashlaw16_alive.calls k  t126 _ A7.out).mono ?_); rintro e w9 ⟨rfl, hb⟩; have n0_ := Aside0.mk (below_step (by repeat (first | (with_reducible first | exact HB.out | apply below_alloc | apply pw_below_drewN | apply below_drew1) | exact HB.out)) hb); clear HB; have HB := n0_; clear n0_; (try clear hb); (try clear hb2); (try clear hk); (try clear hi))); try go_wp2_with (first | (go_at_call 8; (with_reducible refine (bywashlaw16_Light.calls k a1 _ _ l2 true _ ?side1 ?side2 A5.out).mono ?_); (case side1 => repeat (first | exact (Kd.C_below HR2.out HB.out) | (with_reducible refine Kd.C_alloc ?_ _) | (with_reducible refine Kd.C_drewN ?_ _) | (with_reducible refine Kd.C_drew ?_))); (case side2 => exact HC2.out); rintro e w8 ⟨rfl, hb⟩; have n0_ := Aside0.mk (below_step (by repeat (first | (with_reducible first | exact HB.out | apply below_alloc | apply pw_below_drewN | apply below_drew1) | exact HB.out)) hb); clear HB; have HB := n0_; clear n0_; (try clear hb); (try clear hb2); (try clear hk); (try clear hi)) | (go_at_call 9; (with_reducible refine (bywashlaw16_alive.calls k  t126 _ A7.out).mono ?_); rintro e w9 ⟨rfl, hb⟩; have n0_ := Aside0.mk (below_step (by repeat (first | (with_reducible first | exact HB.out | apply below_alloc | apply pw_below_drewN | apply below_drew1) | exact HB.out)) hb); clear HB; have HB := n0_; clear n0_; (try clear hb); (try clear hb2); (try clear hk); (try clear hi))))
      go_meet
      case rel => exact ⟨_, (!t126), (by first | rfl | (simp; done) | (simp [*]; done)), H', ⟨by first | omega | exact Nat.le_refl _⟩, ⟨by repeat (first | (with_reducible first | exact HB.out | apply below_alloc | apply pw_below_drewN | apply below_drew1) | exact HB.out)⟩⟩
    · replace c6 := Bool.eq_false_iff.mpr c6
      subst c6
      have H1 : (bywashlaw16_PumpFits.j0 k a0 a1 l2 true) = some r := by rw [if_neg (show ¬ (false = true) by decide)] at H; exact H
      clear H
      have H := H1
      clear H1
      have H' := Aside0.mk H
      clear H
      go_wp2_with (first | (go_at_call 8; (with_reducible refine (bywashlaw16_Light.calls k a1 _ _ l2 false _ ?side1 ?side2 A5.out).mono ?_); (case side1 => repeat (first | exact (Kd.C_below HR2.out HB.out) | (with_reducible refine Kd.C_alloc ?_ _) | (with_reducible refine Kd.C_drewN ?_ _) | (with_reducible refine Kd.C_drew ?_))); (case side2 => exact HC2.out); rintro e w10 ⟨rfl, hb⟩; have n0_ := Aside0.mk (below_step (by repeat (first | (with_reducible first | exact HB.out | apply below_alloc | apply pw_below_drewN | apply below_drew1) | exact HB.out)) hb); clear HB; have HB := n0_; clear n0_; (try clear hb); (try clear hb2); (try clear hk); (try clear hi)))
      repeat (go_quiet (first | (go_at_call 8; (with_reducible refine (bywashlaw16_Light.calls k a1 _ _ l2 false _ ?side1 ?side2 A5.out).mono ?_); (case side1 => repeat (first | exact (Kd.C_below HR2.out HB.out) | (with_reducible refine Kd.C_alloc ?_ _) | (with_reducible refine Kd.C_drewN ?_ _) | (with_reducible refine Kd.C_drew ?_))); (case side2 => exact HC2.out); rintro e w10 ⟨rfl, hb⟩; have n0_ := Aside0.mk (below_step (by repeat (first | (with_reducible first | exact HB.out | apply below_alloc | apply pw_below_drewN | apply below_drew1) | exact HB.out)) hb); clear HB; have HB := n0_; clear n0_; (try clear hb); (try clear hb2); (try clear hk); (try clear hi))); try go_wp2_with (first | (go_at_call 8; (with_reducible refine (bywashlaw16_Light.calls k a1 _ _ l2 false _ ?side1 ?side2 A5.out).mono ?_); (case side1 => repeat (first | exact (Kd.C_below HR2.out HB.out) | (with_reducible refine Kd.C_alloc ?_ _) | (with_reducible refine Kd.C_drewN ?_ _) | (with_reducible refine Kd.C_drew ?_))); (case side2 => exact HC2.out); rintro e w10 ⟨rfl, hb⟩; have n0_ := Aside0.mk (below_step (by repeat (first | (with_reducible first | exact HB.out | apply below_alloc | apply pw_below_drewN | apply below_drew1) | exact HB.out)) hb); clear HB; have HB := n0_; clear n0_; (try clear hb); (try clear hb2); (try clear hk); (try clear hi))))
      go_meet
      case rel => exact ⟨_, (true), (by first | rfl | (simp; done) | (simp [*]; done)), H', ⟨by first | omega | exact Nat.le_refl _⟩, ⟨by repeat (first | (with_reducible first | exact HB.out | apply below_alloc | apply pw_below_drewN | apply below_drew1) | exact HB.out)⟩⟩
  case rest =>
    clear HC4
    try clear c2
    try clear p2
    try clear c4
    try clear c6
    obtain ⟨kq, x23_3, rfl, HA, HJ3, HB⟩ := hcut
    cases kq with
    | zero => exact absurd HA.out (by simp [bywashlaw16_PumpFits.j0])
    | succ kj3 =>
      have H := HA.out
      clear HA
      simp only [bywashlaw16_PumpFits.j0] at H
      by_cases c11 : x23_3 = true
      · subst c11
        have H1 : ((bywashlaw16_alive.f kj3).bind fun t127 => (some t127)) = some r := by rw [if_pos rfl] at H; exact H
        clear H
        have H := H1
        clear H1
        replace H := Option.bind_eq_some_iff.mp H
        obtain ⟨t127, A120, H⟩ := H
        replace H : (some t127) = some r := H
        have A12 := Aside0.mk A120
        clear A120
        obtain rfl := Option.some.inj H
        go_wp2_with (first | (go_at_call 9; (with_reducible refine (bywashlaw16_alive.calls kj3  t127 _ A12.out).mono ?_); rintro e w13 ⟨rfl, hb⟩; have n0_ := Aside0.mk (below_step (by repeat (first | (with_reducible first | exact HB.out | apply below_alloc | apply pw_below_drewN | apply below_drew1) | exact HB.out)) hb); clear HB; have HB := n0_; clear n0_; (try clear hb); (try clear hb2); (try clear hk); (try clear hi)))
        repeat (go_quiet (first | (go_at_call 9; (with_reducible refine (bywashlaw16_alive.calls kj3  t127 _ A12.out).mono ?_); rintro e w13 ⟨rfl, hb⟩; have n0_ := Aside0.mk (below_step (by repeat (first | (with_reducible first | exact HB.out | apply below_alloc | apply pw_below_drewN | apply below_drew1) | exact HB.out)) hb); clear HB; have HB := n0_; clear n0_; (try clear hb); (try clear hb2); (try clear hk); (try clear hi))); try go_wp2_with (first | (go_at_call 9; (with_reducible refine (bywashlaw16_alive.calls kj3  t127 _ A12.out).mono ?_); rintro e w13 ⟨rfl, hb⟩; have n0_ := Aside0.mk (below_step (by repeat (first | (with_reducible first | exact HB.out | apply below_alloc | apply pw_below_drewN | apply below_drew1) | exact HB.out)) hb); clear HB; have HB := n0_; clear n0_; (try clear hb); (try clear hb2); (try clear hk); (try clear hi))))
        go_ret
        exact ⟨by first | rfl | (simp [errW_none, errW_some] <;> rfl) | (simp [*, errW_none, errW_some] <;> rfl), by repeat (first | (with_reducible first | exact HB.out | apply below_alloc | apply pw_below_drewN | apply below_drew1) | exact HB.out)⟩
      · replace c11 := Bool.eq_false_iff.mpr c11
        subst c11
        have H1 : (bywashlaw16_PumpFits.l0 kj3 a0 a1 l2 1) = some r := by rw [if_neg (show ¬ (false = true) by decide)] at H; exact H
        clear H
        have H := H1
        clear H1
        have H' := Aside0.mk H
        clear H
        go_wp2
        repeat (go_quiet (fail); try go_wp2)
        go_loopg [7] kj3 (fun kq v7 w' => ∃ (x7_2 : Int), v7 = .int .i64 x7_2 ∧ Aside0 (bywashlaw16_PumpFits.l0 kq a0 a1 l2 x7_2 = some r) ∧ Aside0 (kq ≤ kj3) ∧ Aside0 (Below w.heap.size w w'))
        case atStart => exact ⟨(1), (by first | rfl | (simp; done) | (simp [*]; done)), H', ⟨Nat.le_refl _⟩, ⟨by repeat (first | (with_reducible first | exact HB.out | apply below_alloc | apply pw_below_drewN | apply below_drew1) | exact HB.out)⟩⟩
        case round =>
          clear H'
          try clear c1
          try clear c2
          try clear p2
          try clear c4
          try clear c6
          try clear c11
          try clear p2
          obtain ⟨x7_2, rfl, HA, HK2, HB⟩ := hrel
          cases gk with
          | zero => exact absurd HA.out (by simp [bywashlaw16_PumpFits.l0])
          | succ k2 =>
            have H := HA.out
            clear HA
            simp only [bywashlaw16_PumpFits.l0] at H
            by_cases c14 : x7_2 < (l2.length : Int)
            · rw [if_pos c14] at H
              have c14b0 : decide (x7_2 < (l2.length : Int)) = true := decide_eq_true c14
              clear c14
              by_cases c15 : 0 ≤ x7_2
              · rw [if_pos c15] at H
                have c15b0 : decide (0 ≤ x7_2) = true := decide_eq_true c15
                clear c15
                obtain ⟨ji16, hji16⟩ : ∃ j_ : Int, (wrap64 (x7_2 - 1)) = j_ := ⟨_, rfl⟩
                replace H : (if 0 ≤ (ji16) then (if (ji16) < (l2.length : Int) then (if ((rd_T26 l2 x7_2).f0) ≤ ((rd_T26 l2 (ji16)).f0) then (some true) else (bywashlaw16_PumpFits.l0 k2 a0 a1 l2 (wrap64 (x7_2 + 1)))) else (none)) else (none)) = some r := by first | (rw [hji16] at H; exact H) | (simp only [hji16] at H ⊢; exact H)
                have hji16w : (IntKind.i64.wrap (x7_2 - 1)) = ji16 := (i64_w _).trans hji16
                by_cases c17 : 0 ≤ (ji16)
                · rw [if_pos c17] at H
                  have c17b0 : decide (0 ≤ (ji16)) = true := decide_eq_true c17
                  clear c17
                  by_cases c18 : (ji16) < (l2.length : Int)
                  · rw [if_pos c18] at H
                    have c18b0 : decide ((ji16) < (l2.length : Int)) = true := decide_eq_true c18
                    clear c18
                    by_cases c19 : ((rd_T26 l2 x7_2).f0) ≤ ((rd_T26 l2 (ji16)).f0)
                    · rw [if_pos c19] at H
                      have c19b0 : decide (((rd_T26 l2 x7_2).f0) ≤ ((rd_T26 l2 (ji16)).f0)) = true := decide_eq_true c19
                      clear c19
                      obtain rfl := Option.some.inj H
                      have p128 : 0 ≤ (x7_2 : Int) := of_decide_eq_true (by first | (with_reducible assumption) | assumption)
                      have q128 : x7_2 < (l2.length : Int) := of_decide_eq_true (by first | (with_reducible assumption) | assumption)
                      obtain ⟨ad128, e128, hx128_0, hx128_1, hx128_2, hx128_3⟩ := at_T26 HR2.out x7_2 p128 q128
                      cases e128
                      replace hx128_0 := (HB.out.cell (World.block_lt_of_cell? w _ hx128_0)).trans hx128_0
                      replace hx128_1 := (HB.out.cell (World.block_lt_of_cell? w _ hx128_1)).trans hx128_1
                      replace hx128_2 := (HB.out.cell (World.block_lt_of_cell? w _ hx128_2)).trans hx128_2
                      replace hx128_3 := (HB.out.cell (World.block_lt_of_cell? w _ hx128_3)).trans hx128_3
                      replace p128 := eq_true p128
                      replace q128 := eq_true q128
                      have p129 : 0 ≤ ((ji16) : Int) := of_decide_eq_true (by first | (with_reducible assumption) | assumption)
                      have q129 : (ji16) < (l2.length : Int) := of_decide_eq_true (by first | (with_reducible assumption) | assumption)
                      obtain ⟨ad129, e129, hx129_0, hx129_1, hx129_2, hx129_3⟩ := at_T26 HR2.out (ji16) p129 q129
                      obtain rfl : ad128 = ad129 := (by injection e129)
                      replace hx129_0 := (HB.out.cell (World.block_lt_of_cell? w _ hx129_0)).trans hx129_0
                      replace hx129_1 := (HB.out.cell (World.block_lt_of_cell? w _ hx129_1)).trans hx129_1
                      replace hx129_2 := (HB.out.cell (World.block_lt_of_cell? w _ hx129_2)).trans hx129_2
                      replace hx129_3 := (HB.out.cell (World.block_lt_of_cell? w _ hx129_3)).trans hx129_3
                      replace p129 := eq_true p129
                      replace q129 := eq_true q129
                      go_wp2
                      repeat (go_quiet (fail); try go_wp2)
                      go_ret
                      exact ⟨by first | rfl | (simp [errW_none, errW_some] <;> rfl) | (simp only [← hji16]; first | rfl | (simp [errW_none, errW_some] <;> rfl)) | (simp [*, errW_none, errW_some] <;> rfl), by repeat (first | (with_reducible first | exact HB.out | apply below_alloc | apply pw_below_drewN | apply below_drew1) | exact HB.out)⟩
                    · rw [if_neg c19] at H
                      have c19b0 : decide (((rd_T26 l2 x7_2).f0) ≤ ((rd_T26 l2 (ji16)).f0)) = false := decide_eq_false c19
                      clear c19
                      have H' := Aside0.mk H
                      clear H
                      have p128 : 0 ≤ (x7_2 : Int) := of_decide_eq_true (by first | (with_reducible assumption) | assumption)
                      have q128 : x7_2 < (l2.length : Int) := of_decide_eq_true (by first | (with_reducible assumption) | assumption)
                      obtain ⟨ad128, e128, hx128_0, hx128_1, hx128_2, hx128_3⟩ := at_T26 HR2.out x7_2 p128 q128
                      cases e128
                      replace hx128_0 := (HB.out.cell (World.block_lt_of_cell? w _ hx128_0)).trans hx128_0
                      replace hx128_1 := (HB.out.cell (World.block_lt_of_cell? w _ hx128_1)).trans hx128_1
                      replace hx128_2 := (HB.out.cell (World.block_lt_of_cell? w _ hx128_2)).trans hx128_2
                      replace hx128_3 := (HB.out.cell (World.block_lt_of_cell? w _ hx128_3)).trans hx128_3
                      replace p128 := eq_true p128
                      replace q128 := eq_true q128
                      have p129 : 0 ≤ ((ji16) : Int) := of_decide_eq_true (by first | (with_reducible assumption) | assumption)
                      have q129 : (ji16) < (l2.length : Int) := of_decide_eq_true (by first | (with_reducible assumption) | assumption)
                      obtain ⟨ad129, e129, hx129_0, hx129_1, hx129_2, hx129_3⟩ := at_T26 HR2.out (ji16) p129 q129
                      obtain rfl : ad128 = ad129 := (by injection e129)
                      replace hx129_0 := (HB.out.cell (World.block_lt_of_cell? w _ hx129_0)).trans hx129_0
                      replace hx129_1 := (HB.out.cell (World.block_lt_of_cell? w _ hx129_1)).trans hx129_1
                      replace hx129_2 := (HB.out.cell (World.block_lt_of_cell? w _ hx129_2)).trans hx129_2
                      replace hx129_3 := (HB.out.cell (World.block_lt_of_cell? w _ hx129_3)).trans hx129_3
                      replace p129 := eq_true p129
                      replace q129 := eq_true q129
                      go_wp2
                      repeat (go_quiet (fail); try go_wp2)
                      go_roundg k2
                      case measure => have := HJ3.out; have := HK2.out; omega
                      case rel => exact ⟨(wrap64 (x7_2 + 1)), (by first | rfl | (simp; done) | (simp [*]; done)), H', ⟨by have := HJ3.out; have := HK2.out; omega⟩, ⟨by repeat (first | (with_reducible first | exact HB.out | apply below_alloc | apply pw_below_drewN | apply below_drew1) | exact HB.out)⟩⟩
                  · rw [if_neg c18] at H
                    exact absurd H (by simp)
                · rw [if_neg c17] at H
                  exact absurd H (by simp)
              · rw [if_neg c15] at H
                exact absurd H (by simp)
            · rw [if_neg c14] at H
              have c14b0 : decide (x7_2 < (l2.length : Int)) = false := decide_eq_false c14
              clear c14
              replace H := Option.bind_eq_some_iff.mp H
              obtain ⟨t130, A200, H⟩ := H
              replace H : (bywashlaw16_PumpFits.l1 k2 a1 0 t130 a0 l2 (l2.length : Int) 0) = some r := H
              have A20 := Aside0.mk A200
              clear A200
              have H' := Aside0.mk H
              clear H
              go_wp2_with (first | (go_at_call 11; (with_reducible refine (pump_Plan.calls k2 a0 a1 _ _ l2 t130 _ ?side1 ?side2 A20.out).mono ?_); (case side1 => repeat (first | exact (Kd.C_below HR2.out HB.out) | (with_reducible refine Kd.C_alloc ?_ _) | (with_reducible refine Kd.C_drewN ?_ _) | (with_reducible refine Kd.C_drew ?_))); (case side2 => exact HC2.out); rintro e w21 ⟨v131, rfl, ho0, hb⟩; have n0_ := Aside0.mk (Kd.R_lower ho0 (below_size (by repeat (first | (with_reducible first | exact HB.out | apply below_alloc | apply pw_below_drewN | apply below_drew1) | exact HB.out)))); have n1_ := Aside0.mk (below_step (by repeat (first | (with_reducible first | exact HB.out | apply below_alloc | apply pw_below_drewN | apply below_drew1) | exact HB.out)) hb); clear HB; have HO132 := n0_; have HB := n1_; clear n0_ n1_; (try clear hb); (try clear hb2); (try clear hk); (try clear hi); (try clear ho0)))
              repeat (go_quiet (first | (go_at_call 11; (with_reducible refine (pump_Plan.calls k2 a0 a1 _ _ l2 t130 _ ?side1 ?side2 A20.out).mono ?_); (case side1 => repeat (first | exact (Kd.C_below HR2.out HB.out) | (with_reducible refine Kd.C_alloc ?_ _) | (with_reducible refine Kd.C_drewN ?_ _) | (with_reducible refine Kd.C_drew ?_))); (case side2 => exact HC2.out); rintro e w21 ⟨v131, rfl, ho0, hb⟩; have n0_ := Aside0.mk (Kd.R_lower ho0 (below_size (by repeat (first | (with_reducible first | exact HB.out | apply below_alloc | apply pw_below_drewN | apply below_drew1) | exact HB.out)))); have n1_ := Aside0.mk (below_step (by repeat (first | (with_reducible first | exact HB.out | apply below_alloc | apply pw_below_drewN | apply below_drew1) | exact HB.out)) hb); clear HB; have HO132 := n0_; have HB := n1_; clear n0_ n1_; (try clear hb); (try clear hb2); (try clear hk); (try clear hi); (try clear ho0))); try go_wp2_with (first | (go_at_call 11; (with_reducible refine (pump_Plan.calls k2 a0 a1 _ _ l2 t130 _ ?side1 ?side2 A20.out).mono ?_); (case side1 => repeat (first | exact (Kd.C_below HR2.out HB.out) | (with_reducible refine Kd.C_alloc ?_ _) | (with_reducible refine Kd.C_drewN ?_ _) | (with_reducible refine Kd.C_drew ?_))); (case side2 => exact HC2.out); rintro e w21 ⟨v131, rfl, ho0, hb⟩; have n0_ := Aside0.mk (Kd.R_lower ho0 (below_size (by repeat (first | (with_reducible first | exact HB.out | apply below_alloc | apply pw_below_drewN | apply below_drew1) | exact HB.out)))); have n1_ := Aside0.mk (below_step (by repeat (first | (with_reducible first | exact HB.out | apply below_alloc | apply pw_below_drewN | apply below_drew1) | exact HB.out)) hb); clear HB; have HO132 := n0_; have HB := n1_; clear n0_ n1_; (try clear hb); (try clear hb2); (try clear hk); (try clear hi); (try clear ho0))))
              go_loopg [8, 10, 50] k2 (fun kq v8 v10 v50 w' => ∃ (x8_3 : Int) (x10_3 : Int) (x50_3 : Int), v8 = .int .i64 x8_3 ∧ v10 = .int .i64 x10_3 ∧ v50 = .int .i64 x50_3 ∧ Aside0 (bywashlaw16_PumpFits.l1 kq a1 x8_3 t130 x10_3 l2 (l2.length : Int) x50_3 = some r) ∧ Aside0 (kq ≤ k2) ∧ Aside0 (Kd.R k34 34 w' w.heap.size (fun _ => True) v131 t130) ∧ Aside0 (Below w.heap.size w w'))
              case atStart => exact ⟨(0), (a0), (0), (by first | rfl | (simp; done) | (simp [*]; done)), (by first | rfl | (simp; done) | (simp [*]; done)), (by first | rfl | (simp; done) | (simp [*]; done)), H', ⟨Nat.le_refl _⟩, ⟨by (with_reducible repeat (first | apply Kd.R_alloc | apply Kd.R_drewN | apply Kd.R_drew)); exact HO132.out⟩, ⟨by repeat (first | (with_reducible first | exact HB.out | apply below_alloc | apply pw_below_drewN | apply below_drew1) | exact HB.out)⟩⟩
              case round =>
                clear H'
                try clear c1
                try clear p1
                try clear q1
                try clear hx1
                try clear c2
                try clear p2
                try clear c4
                try clear c6
                try clear p6
                try clear c11
                try clear p12
                try clear q12
                try clear hx12
                try clear c14
                try clear c14b0
                try clear c15
                try clear c15b0
                try clear c17
                try clear c17b0
                try clear c18
                try clear c18b0
                try clear c19
                try clear c19b0
                try clear hx128_0
                try clear hx128_1
                try clear hx128_2
                try clear hx128_3
                try clear hx129_0
                try clear hx129_1
                try clear hx129_2
                try clear hx129_3
                try clear p128
                try clear p129
                try clear p2
                try clear q128
                try clear q129
                obtain ⟨x8_3, x10_3, x50_3, rfl, rfl, rfl, HA, HK3, HO_9, HB⟩ := hrel
                cases gk with
                | zero => exact absurd HA.out (by simp [bywashlaw16_PumpFits.l1])
                | succ k3 =>
                  have H := HA.out
                  clear HA
                  simp only [bywashlaw16_PumpFits.l1] at H
                  by_cases c22 : x50_3 < (l2.length : Int)
                  · rw [if_pos c22] at H
                    have c22b0 : decide (x50_3 < (l2.length : Int)) = true := decide_eq_true c22
                    clear c22
                    by_cases c23 : 0 ≤ x50_3
                    · rw [if_pos c23] at H
                      have c23b0 : decide (0 ≤ x50_3) = true := decide_eq_true c23
                      clear c23
                      by_cases c24 : x50_3 < (l2.length : Int)
                      · rw [if_pos c24] at H
                        have c24b0 : decide (x50_3 < (l2.length : Int)) = true := decide_eq_true c24
                        clear c24
                        have HC25 := Aside0.mk H
                        clear H
                        have p133 : 0 ≤ (x50_3 : Int) := of_decide_eq_true (by first | (with_reducible assumption) | assumption)
                        have q133 : x50_3 < (l2.length : Int) := of_decide_eq_true (by first | (with_reducible assumption) | assumption)
                        obtain ⟨ad133, e133, hx133_0, hx133_1, hx133_2, hx133_3⟩ := at_T26 HR2.out x50_3 p133 q133
                        cases e133
                        replace hx133_0 := (HB.out.cell (World.block_lt_of_cell? w _ hx133_0)).trans hx133_0
                        replace hx133_1 := (HB.out.cell (World.block_lt_of_cell? w _ hx133_1)).trans hx133_1
                        replace hx133_2 := (HB.out.cell (World.block_lt_of_cell? w _ hx133_2)).trans hx133_2
                        replace hx133_3 := (HB.out.cell (World.block_lt_of_cell? w _ hx133_3)).trans hx133_3
                        replace p133 := eq_true p133
                        replace q133 := eq_true q133
                        go_upto_block 4 with (first | ((with_reducible refine gate_dst (N := 12) rfl ?_); (try (refine gate_guard (by rfl) ?_; dsimp only)); refine box_event ?hg (N := 12) ?hd (cs := #[.int .i64 0, .int .i64 0, .int .i64 0, .bool false]) (t := 26) ?hr ?_; (case hd => rfl); (case hg => rfl); (case hr => first | (go_simp; done) | (go_simp; rfl)); intro gb134 hg w26 hbox hb; have n0_ := Aside0.mk (Kd.R_below (by (with_reducible repeat (first | apply Kd.R_alloc | apply Kd.R_drewN | apply Kd.R_drew)); exact HO_9.out) hb); have n1_ := Aside0.mk (below_step (by repeat (first | (with_reducible first | exact HB.out | apply below_alloc | apply pw_below_drewN | apply below_drew1) | exact HB.out)) hb); have n2_ := Aside0.mk (hbox); have n3_ := Aside0.mk ((by rw [hg]; exact (below_size (by repeat (first | (with_reducible first | exact HB.out | apply below_alloc | apply pw_below_drewN | apply below_drew1) | exact HB.out))) : w.heap.size ≤ gb134)); have n4_ := Aside0.mk ((by rw [hg]; exact (below_size (by repeat (first | (with_reducible first | exact HB.out | apply below_alloc | apply pw_below_drewN | apply below_drew1) | exact HB.out))) : w.heap.size ≤ gb134)); clear HO_9; clear HB; have HO_9 := n0_; have HB := n1_; have BK134 := n2_; have GW134 := n3_; have GE134 := n4_; clear n0_ n1_ n2_ n3_ n4_; clear hb hbox hg; have hcz27_0 : w26.cell? ⟨gb134, 0, none⟩ = some (.int .i64 0) := (blk_cell BK134.out 0).trans rfl; have hcz27_1 : w26.cell? ⟨gb134, 1, none⟩ = some (.int .i64 0) := (blk_cell BK134.out 1).trans rfl; have hcz27_2 : w26.cell? ⟨gb134, 2, none⟩ = some (.int .i64 0) := (blk_cell BK134.out 2).trans rfl; have hcz27_3 : w26.cell? ⟨gb134, 3, none⟩ = some (.bool false) := (blk_cell BK134.out 3).trans rfl; have hfz27_0 := blk_frozen BK134.out 0; have hfz27_1 := blk_frozen BK134.out 1; have hfz27_2 := blk_frozen BK134.out 2; have hfz27_3 := blk_frozen BK134.out 3))
                        repeat (go_quiet (first | ((with_reducible refine gate_dst (N := 12) rfl ?_); (try (refine gate_guard (by rfl) ?_; dsimp only)); refine box_event ?hg (N := 12) ?hd (cs := #[.int .i64 0, .int .i64 0, .int .i64 0, .bool false]) (t := 26) ?hr ?_; (case hd => rfl); (case hg => rfl); (case hr => first | (go_simp; done) | (go_simp; rfl)); intro gb134 hg w26 hbox hb; have n0_ := Aside0.mk (Kd.R_below (by (with_reducible repeat (first | apply Kd.R_alloc | apply Kd.R_drewN | apply Kd.R_drew)); exact HO_9.out) hb); have n1_ := Aside0.mk (below_step (by repeat (first | (with_reducible first | exact HB.out | apply below_alloc | apply pw_below_drewN | apply below_drew1) | exact HB.out)) hb); have n2_ := Aside0.mk (hbox); have n3_ := Aside0.mk ((by rw [hg]; exact (below_size (by repeat (first | (with_reducible first | exact HB.out | apply below_alloc | apply pw_below_drewN | apply below_drew1) | exact HB.out))) : w.heap.size ≤ gb134)); have n4_ := Aside0.mk ((by rw [hg]; exact (below_size (by repeat (first | (with_reducible first | exact HB.out | apply below_alloc | apply pw_below_drewN | apply below_drew1) | exact HB.out))) : w.heap.size ≤ gb134)); clear HO_9; clear HB; have HO_9 := n0_; have HB := n1_; have BK134 := n2_; have GW134 := n3_; have GE134 := n4_; clear n0_ n1_ n2_ n3_ n4_; clear hb hbox hg; have hcz27_0 : w26.cell? ⟨gb134, 0, none⟩ = some (.int .i64 0) := (blk_cell BK134.out 0).trans rfl; have hcz27_1 : w26.cell? ⟨gb134, 1, none⟩ = some (.int .i64 0) := (blk_cell BK134.out 1).trans rfl; have hcz27_2 : w26.cell? ⟨gb134, 2, none⟩ = some (.int .i64 0) := (blk_cell BK134.out 2).trans rfl; have hcz27_3 : w26.cell? ⟨gb134, 3, none⟩ = some (.bool false) := (blk_cell BK134.out 3).trans rfl; have hfz27_0 := blk_frozen BK134.out 0; have hfz27_1 := blk_frozen BK134.out 1; have hfz27_2 := blk_frozen BK134.out 2; have hfz27_3 := blk_frozen BK134.out 3)); go_upto_block 4 with (first | ((with_reducible refine gate_dst (N := 12) rfl ?_); (try (refine gate_guard (by rfl) ?_; dsimp only)); refine box_event ?hg (N := 12) ?hd (cs := #[.int .i64 0, .int .i64 0, .int .i64 0, .bool false]) (t := 26) ?hr ?_; (case hd => rfl); (case hg => rfl); (case hr => first | (go_simp; done) | (go_simp; rfl)); intro gb134 hg w26 hbox hb; have n0_ := Aside0.mk (Kd.R_below (by (with_reducible repeat (first | apply Kd.R_alloc | apply Kd.R_drewN | apply Kd.R_drew)); exact HO_9.out) hb); have n1_ := Aside0.mk (below_step (by repeat (first | (with_reducible first | exact HB.out | apply below_alloc | apply pw_below_drewN | apply below_drew1) | exact HB.out)) hb); have n2_ := Aside0.mk (hbox); have n3_ := Aside0.mk ((by rw [hg]; exact (below_size (by repeat (first | (with_reducible first | exact HB.out | apply below_alloc | apply pw_below_drewN | apply below_drew1) | exact HB.out))) : w.heap.size ≤ gb134)); have n4_ := Aside0.mk ((by rw [hg]; exact (below_size (by repeat (first | (with_reducible first | exact HB.out | apply below_alloc | apply pw_below_drewN | apply below_drew1) | exact HB.out))) : w.heap.size ≤ gb134)); clear HO_9; clear HB; have HO_9 := n0_; have HB := n1_; have BK134 := n2_; have GW134 := n3_; have GE134 := n4_; clear n0_ n1_ n2_ n3_ n4_; clear hb hbox hg; have hcz27_0 : w26.cell? ⟨gb134, 0, none⟩ = some (.int .i64 0) := (blk_cell BK134.out 0).trans rfl; have hcz27_1 : w26.cell? ⟨gb134, 1, none⟩ = some (.int .i64 0) := (blk_cell BK134.out 1).trans rfl; have hcz27_2 : w26.cell? ⟨gb134, 2, none⟩ = some (.int .i64 0) := (blk_cell BK134.out 2).trans rfl; have hcz27_3 : w26.cell? ⟨gb134, 3, none⟩ = some (.bool false) := (blk_cell BK134.out 3).trans rfl; have hfz27_0 := blk_frozen BK134.out 0; have hfz27_1 := blk_frozen BK134.out 1; have hfz27_2 := blk_frozen BK134.out 2; have hfz27_3 := blk_frozen BK134.out 3)))
                        (try simp only [Act.put, List.setIfInBounds_toArray, List.set_cons_zero, List.set_cons_succ])
                        go_cut [8, 13, 14] (fun v8 v13 v14 wc => ∃ (kq : Nat) (x8_24 : Int) (x13_24 : Int) (x14_24 : Bool), v8 = .int .i64 x8_24 ∧ v13 = .int .i64 x13_24 ∧ v14 = .bool x14_24 ∧ Aside0 (bywashlaw16_PumpFits.j6 kq a1 x8_24 t130 x10_3 x13_24 x14_24 l2 (l2.length : Int) x50_3 ((rd_T26 l2 x50_3).f0) ((rd_T26 l2 x50_3).f1) ((rd_T26 l2 x50_3).f2) ((rd_T26 l2 x50_3).f3) = some r) ∧ Aside0 (kq ≤ k3) ∧ Aside0 (Kd.R k34 34 wc w.heap.size (fun _ => True) v131 t130) ∧ Aside0 (wc.heap[gb134]? = some (.cells #[.int .i64 ((rd_T26 l2 x50_3).f0), .int .i64 ((rd_T26 l2 x50_3).f1), .int .i64 ((rd_T26 l2 x50_3).f2), .bool ((rd_T26 l2 x50_3).f3)] 26 (0, 0))) ∧ Aside0 (Below w.heap.size w wc))
                        case first =>
                          have H := HC25.out
                          clear HC25
                          have H' := Aside0.mk H
                          clear H
                          go_wp2
                          repeat (go_quiet (fail); try go_wp2)
                          go_loopg [8, 13, 14] k3 (fun kq v8 v13 v14 w' => ∃ (x8_4 : Int) (x13_4 : Int) (x14_4 : Bool), v8 = .int .i64 x8_4 ∧ v13 = .int .i64 x13_4 ∧ v14 = .bool x14_4 ∧ Aside0 (bywashlaw16_PumpFits.l2 kq a1 x8_4 t130 x10_3 x13_4 x14_4 l2 (l2.length : Int) x50_3 ((rd_T26 l2 x50_3).f0) ((rd_T26 l2 x50_3).f1) ((rd_T26 l2 x50_3).f2) ((rd_T26 l2 x50_3).f3) = some r) ∧ Aside0 (kq ≤ k3) ∧ Aside0 (Kd.R k34 34 w' w.heap.size (fun _ => True) v131 t130) ∧ Aside0 (w'.heap[gb134]? = some (.cells #[.int .i64 ((rd_T26 l2 x50_3).f0), .int .i64 ((rd_T26 l2 x50_3).f1), .int .i64 ((rd_T26 l2 x50_3).f2), .bool ((rd_T26 l2 x50_3).f3)] 26 (0, 0))) ∧ Aside0 (Below w.heap.size w w'))
                          case atStart => exact ⟨(x8_3), (0), (false), (by first | rfl | (simp; done) | (simp [*]; done)), (by first | rfl | (simp; done) | (simp [*]; done)), (by first | rfl | (simp; done) | (simp [*]; done)), H', ⟨Nat.le_refl _⟩, ⟨by (with_reducible repeat (first | apply Kd.R_alloc | apply Kd.R_drewN | apply Kd.R_drew)); exact Kd.R_mono (Kd.R_far (p := ⟨gb134, 3, none⟩) (Kd.R_far (p := ⟨gb134, 2, none⟩) (Kd.R_far (p := ⟨gb134, 1, none⟩) (Kd.R_far (p := ⟨gb134, 0, none⟩) (Kd.R_types HO_9.out BK134.out (by decide)) (fun _ hk => hk.2) (.int .i64 ((rd_T26 l2 x50_3).f0))) (fun _ hk => hk.2) (.int .i64 ((rd_T26 l2 x50_3).f1))) (fun _ hk => hk.2) (.int .i64 ((rd_T26 l2 x50_3).f2))) (fun _ hk => hk.2) (.bool ((rd_T26 l2 x50_3).f3))) (fun _ hk => trivial)⟩, ⟨by (with_reducible repeat (first | refine blk_drewN ?_ _ | refine blk_drew ?_ | refine blk_alloc ?_ _)); refine blk_put (cs := #[.int .i64 ((rd_T26 l2 x50_3).f0), .int .i64 ((rd_T26 l2 x50_3).f1), .int .i64 ((rd_T26 l2 x50_3).f2), .bool false]) ?_ 3 _ rfl; (with_reducible repeat (first | refine blk_drewN ?_ _ | refine blk_drew ?_ | refine blk_alloc ?_ _)); refine blk_put (cs := #[.int .i64 ((rd_T26 l2 x50_3).f0), .int .i64 ((rd_T26 l2 x50_3).f1), .int .i64 0, .bool false]) ?_ 2 _ rfl; (with_reducible repeat (first | refine blk_drewN ?_ _ | refine blk_drew ?_ | refine blk_alloc ?_ _)); refine blk_put (cs := #[.int .i64 ((rd_T26 l2 x50_3).f0), .int .i64 0, .int .i64 0, .bool false]) ?_ 1 _ rfl; (with_reducible repeat (first | refine blk_drewN ?_ _ | refine blk_drew ?_ | refine blk_alloc ?_ _)); refine blk_put (cs := #[.int .i64 0, .int .i64 0, .int .i64 0, .bool false]) ?_ 0 _ rfl; (with_reducible repeat (first | refine blk_drewN ?_ _ | refine blk_drew ?_ | refine blk_alloc ?_ _)); exact BK134.out⟩, ⟨by repeat (first | (with_reducible first | exact HB.out | apply below_alloc | apply pw_below_drewN | apply below_drew1 | refine below_set ?_ GE134.out) | exact HB.out)⟩⟩
                          case round =>
                            clear H'
                            try clear c1
                            try clear p1
                            try clear q1
                            try clear hx1
                            try clear c2
                            try clear p2
                            try clear c4
                            try clear c6
                            try clear p6
                            try clear c11
                            try clear p12
                            try clear q12
                            try clear hx12
                            try clear p13
                            try clear q13
                            try clear hx13
                            try clear c14
                            try clear c14b0
                            try clear c15
                            try clear c15b0
                            try clear c17
                            try clear c17b0
                            try clear c18
                            try clear c18b0
                            try clear c19
                            try clear c19b0
                            try clear c22
                            try clear c22b0
                            try clear c23
                            try clear c23b0
                            try clear c24
                            try clear c24b0
                            try clear hcz27_0
                            try clear hcz27_1
                            try clear hcz27_2
                            try clear hcz27_3
                            try clear hfz27_0
                            try clear hfz27_1
                            try clear hfz27_2
                            try clear hfz27_3
                            try clear hx128_0
                            try clear hx128_1
                            try clear hx128_2
                            try clear hx128_3
                            try clear hx129_0
                            try clear hx129_1
                            try clear hx129_2
                            try clear hx129_3
                            try clear hx133_0
                            try clear hx133_1
                            try clear hx133_2
                            try clear hx133_3
                            try clear p1
                            try clear p12
                            try clear p128
                            try clear p129
                            try clear p133
                            try clear p2
                            try clear p6
                            try clear q1
                            try clear q12
                            try clear q128
                            try clear q129
                            try clear q133
                            obtain ⟨x8_4, x13_4, x14_4, rfl, rfl, rfl, HA, HK4, HO_9, BK134, HB⟩ := hrel
                            cases gk with
                            | zero => exact absurd HA.out (by simp [bywashlaw16_PumpFits.l2])
                            | succ k4 =>
                              have H := HA.out
                              clear HA
                              simp only [bywashlaw16_PumpFits.l2] at H
                              have HC28 := Aside0.mk H
                              clear H
                              go_upto_region 15 with (fail)
                              repeat (go_quiet (fail); go_upto_region 15 with (fail))
                              go_cut [84] (fun v84 wc => ∃ (kq : Nat) (x84_27 : Bool), v84 = .bool x84_27 ∧ Aside0 (bywashlaw16_PumpFits.j4 kq a1 x8_4 t130 x10_3 x13_4 x14_4 l2 (l2.length : Int) x50_3 x84_27 ((rd_T26 l2 x50_3).f0) ((rd_T26 l2 x50_3).f1) ((rd_T26 l2 x50_3).f2) ((rd_T26 l2 x50_3).f3) = some r) ∧ Aside0 (kq ≤ k4) ∧ Aside0 (Kd.R k34 34 wc w.heap.size (fun _ => True) v131 t130) ∧ Aside0 (wc.heap[gb134]? = some (.cells #[.int .i64 ((rd_T26 l2 x50_3).f0), .int .i64 ((rd_T26 l2 x50_3).f1), .int .i64 ((rd_T26 l2 x50_3).f2), .bool ((rd_T26 l2 x50_3).f3)] 26 (0, 0))) ∧ Aside0 (Below w.heap.size w wc))
                              case first =>
                                have H := HC28.out
                                clear HC28
                                by_cases c29 : x8_4 < (t130.length : Int)
                                · rw [if_pos c29] at H
                                  have c29b0 : decide (x8_4 < (t130.length : Int)) = true := decide_eq_true c29
                                  clear c29
                                  (first | rw [c29b0] | (simp only [i64_w, i32_w]; rw [c29b0]) | skip)
                                  by_cases c30 : 0 ≤ x8_4
                                  · rw [if_pos c30] at H
                                    have c30b0 : decide (0 ≤ x8_4) = true := decide_eq_true c30
                                    clear c30
                                    by_cases c31 : ((rd_T34 t130 x8_4).f0) = ((rd_T26 l2 x50_3).f0)
                                    · rw [if_pos c31] at H
                                      have c31b0 : (((rd_T34 t130 x8_4).f0) == ((rd_T26 l2 x50_3).f0)) = true := beq_iff_eq.mpr c31
                                      have c31b1 : (((rd_T34 t130 x8_4).f0) != ((rd_T26 l2 x50_3).f0)) = false := bne_eq_false_iff_eq.mpr c31
                                      clear c31
                                      by_cases c32 : x14_4 = true
                                      · subst c32
                                        have H1 : (bywashlaw16_PumpFits.j4 k4 a1 x8_4 t130 x10_3 x13_4 true l2 (l2.length : Int) x50_3 false ((rd_T26 l2 x50_3).f0) ((rd_T26 l2 x50_3).f1) ((rd_T26 l2 x50_3).f2) ((rd_T26 l2 x50_3).f3)) = some r := by rw [if_pos rfl] at H; exact H
                                        clear H
                                        have H := H1
                                        clear H1
                                        have H' := Aside0.mk H
                                        clear H
                                        obtain ⟨Ao33, co33, eo33⟩ := Kd.R_slice HO_9.out
                                        subst eo33
                                        have p135 : 0 ≤ (x8_4 : Int) := of_decide_eq_true (by first | (with_reducible assumption) | assumption)
                                        have q135 : x8_4 < (t130.length : Int) := of_decide_eq_true (by first | (with_reducible assumption) | assumption)
                                        obtain ⟨ad135, e135, hx135_0, hx135_1, hx135_2⟩ := at_T34 (Kd.R_reads' HO_9.out).2.2 x8_4 p135 q135
                                        cases e135
                                        replace p135 := eq_true p135
                                        replace q135 := eq_true q135
                                        have hcz34_0 : wr.cell? ⟨gb134, 0, none⟩ = some (.int .i64 ((rd_T26 l2 x50_3).f0)) := (blk_cell BK134.out 0).trans rfl
                                        have hcz34_1 : wr.cell? ⟨gb134, 1, none⟩ = some (.int .i64 ((rd_T26 l2 x50_3).f1)) := (blk_cell BK134.out 1).trans rfl
                                        have hcz34_2 : wr.cell? ⟨gb134, 2, none⟩ = some (.int .i64 ((rd_T26 l2 x50_3).f2)) := (blk_cell BK134.out 2).trans rfl
                                        have hcz34_3 : wr.cell? ⟨gb134, 3, none⟩ = some (.bool ((rd_T26 l2 x50_3).f3)) := (blk_cell BK134.out 3).trans rfl
                                        have hfz34_0 := blk_frozen BK134.out 0
                                        have hfz34_1 := blk_frozen BK134.out 1
                                        have hfz34_2 := blk_frozen BK134.out 2
                                        have hfz34_3 := blk_frozen BK134.out 3
                                        go_wp2
                                        repeat (go_quiet (fail); try go_wp2)
                                        go_meet
                                        case rel => exact ⟨_, (false), (by first | rfl | (simp; done) | (simp [*]; done)), H', ⟨by have := HJ3.out; have := HK2.out; have := HK3.out; have := HK4.out; first | omega | exact Nat.le_refl _⟩, ⟨by (with_reducible repeat (first | apply Kd.R_alloc | apply Kd.R_drewN | apply Kd.R_drew)); exact HO_9.out⟩, ⟨by (with_reducible repeat (first | refine blk_drewN ?_ _ | refine blk_drew ?_ | refine blk_alloc ?_ _)); exact BK134.out⟩, ⟨by repeat (first | (with_reducible first | exact HB.out | apply below_alloc | apply pw_below_drewN | apply below_drew1 | refine below_set ?_ GE134.out) | exact HB.out)⟩⟩
                                      · replace c32 := Bool.eq_false_iff.mpr c32
                                        subst c32
                                        have H1 : (if ((rd_T34 t130 x8_4).f1) > 0 then (bywashlaw16_PumpFits.j4 k4 a1 x8_4 t130 x10_3 x13_4 false l2 (l2.length : Int) x50_3 true ((rd_T26 l2 x50_3).f0) ((rd_T26 l2 x50_3).f1) ((rd_T26 l2 x50_3).f2) ((rd_T26 l2 x50_3).f3)) else (bywashlaw16_PumpFits.j4 k4 a1 x8_4 t130 x10_3 x13_4 false l2 (l2.length : Int) x50_3 (((rd_T26 l2 x50_3).f2) == 0) ((rd_T26 l2 x50_3).f0) ((rd_T26 l2 x50_3).f1) ((rd_T26 l2 x50_3).f2) ((rd_T26 l2 x50_3).f3))) = some r := by rw [if_neg (show ¬ (false = true) by decide)] at H; exact H
                                        clear H
                                        have H := H1
                                        clear H1
                                        by_cases c35 : ((rd_T34 t130 x8_4).f1) > 0
                                        · rw [if_pos c35] at H
                                          have c35b0 : decide (0 < ((rd_T34 t130 x8_4).f1)) = true := decide_eq_true c35
                                          clear c35
                                          have H' := Aside0.mk H
                                          clear H
                                          obtain ⟨Ao36, co36, eo36⟩ := Kd.R_slice HO_9.out
                                          subst eo36
                                          have p135 : 0 ≤ (x8_4 : Int) := of_decide_eq_true (by first | (with_reducible assumption) | assumption)
                                          have q135 : x8_4 < (t130.length : Int) := of_decide_eq_true (by first | (with_reducible assumption) | assumption)
                                          obtain ⟨ad135, e135, hx135_0, hx135_1, hx135_2⟩ := at_T34 (Kd.R_reads' HO_9.out).2.2 x8_4 p135 q135
                                          cases e135
                                          replace p135 := eq_true p135
                                          replace q135 := eq_true q135
                                          have hcz37_0 : wr.cell? ⟨gb134, 0, none⟩ = some (.int .i64 ((rd_T26 l2 x50_3).f0)) := (blk_cell BK134.out 0).trans rfl
                                          have hcz37_1 : wr.cell? ⟨gb134, 1, none⟩ = some (.int .i64 ((rd_T26 l2 x50_3).f1)) := (blk_cell BK134.out 1).trans rfl
                                          have hcz37_2 : wr.cell? ⟨gb134, 2, none⟩ = some (.int .i64 ((rd_T26 l2 x50_3).f2)) := (blk_cell BK134.out 2).trans rfl
                                          have hcz37_3 : wr.cell? ⟨gb134, 3, none⟩ = some (.bool ((rd_T26 l2 x50_3).f3)) := (blk_cell BK134.out 3).trans rfl
                                          have hfz37_0 := blk_frozen BK134.out 0
                                          have hfz37_1 := blk_frozen BK134.out 1
                                          have hfz37_2 := blk_frozen BK134.out 2
                                          have hfz37_3 := blk_frozen BK134.out 3
                                          have p136 : 0 ≤ (x8_4 : Int) := of_decide_eq_true (by first | (with_reducible assumption) | assumption)
                                          have q136 : x8_4 < (t130.length : Int) := of_decide_eq_true (by first | (with_reducible assumption) | assumption)
                                          obtain ⟨ad136, e136, hx136_0, hx136_1, hx136_2⟩ := at_T34 (Kd.R_reads' HO_9.out).2.2 x8_4 p136 q136
                                          obtain rfl : ad135 = ad136 := (by injection e136)
                                          replace p136 := eq_true p136
                                          replace q136 := eq_true q136
                                          go_wp2
                                          repeat (go_quiet (fail); try go_wp2)
                                          go_meet
                                          case rel => exact ⟨_, (true), (by first | rfl | (simp; done) | (simp [*]; done)), H', ⟨by have := HJ3.out; have := HK2.out; have := HK3.out; have := HK4.out; first | omega | exact Nat.le_refl _⟩, ⟨by (with_reducible repeat (first | apply Kd.R_alloc | apply Kd.R_drewN | apply Kd.R_drew)); exact HO_9.out⟩, ⟨by (with_reducible repeat (first | refine blk_drewN ?_ _ | refine blk_drew ?_ | refine blk_alloc ?_ _)); exact BK134.out⟩, ⟨by repeat (first | (with_reducible first | exact HB.out | apply below_alloc | apply pw_below_drewN | apply below_drew1 | refine below_set ?_ GE134.out) | exact HB.out)⟩⟩
                                        · rw [if_neg c35] at H
                                          have c35b0 : decide (0 < ((rd_T34 t130 x8_4).f1)) = false := decide_eq_false c35
                                          clear c35
                                          have H' := Aside0.mk H
                                          clear H
                                          obtain ⟨Ao38, co38, eo38⟩ := Kd.R_slice HO_9.out
                                          subst eo38
                                          have p135 : 0 ≤ (x8_4 : Int) := of_decide_eq_true (by first | (with_reducible assumption) | assumption)
                                          have q135 : x8_4 < (t130.length : Int) := of_decide_eq_true (by first | (with_reducible assumption) | assumption)
                                          obtain ⟨ad135, e135, hx135_0, hx135_1, hx135_2⟩ := at_T34 (Kd.R_reads' HO_9.out).2.2 x8_4 p135 q135
                                          cases e135
                                          replace p135 := eq_true p135
                                          replace q135 := eq_true q135
                                          have hcz39_0 : wr.cell? ⟨gb134, 0, none⟩ = some (.int .i64 ((rd_T26 l2 x50_3).f0)) := (blk_cell BK134.out 0).trans rfl
                                          have hcz39_1 : wr.cell? ⟨gb134, 1, none⟩ = some (.int .i64 ((rd_T26 l2 x50_3).f1)) := (blk_cell BK134.out 1).trans rfl
                                          have hcz39_2 : wr.cell? ⟨gb134, 2, none⟩ = some (.int .i64 ((rd_T26 l2 x50_3).f2)) := (blk_cell BK134.out 2).trans rfl
                                          have hcz39_3 : wr.cell? ⟨gb134, 3, none⟩ = some (.bool ((rd_T26 l2 x50_3).f3)) := (blk_cell BK134.out 3).trans rfl
                                          have hfz39_0 := blk_frozen BK134.out 0
                                          have hfz39_1 := blk_frozen BK134.out 1
                                          have hfz39_2 := blk_frozen BK134.out 2
                                          have hfz39_3 := blk_frozen BK134.out 3
                                          have p136 : 0 ≤ (x8_4 : Int) := of_decide_eq_true (by first | (with_reducible assumption) | assumption)
                                          have q136 : x8_4 < (t130.length : Int) := of_decide_eq_true (by first | (with_reducible assumption) | assumption)
                                          obtain ⟨ad136, e136, hx136_0, hx136_1, hx136_2⟩ := at_T34 (Kd.R_reads' HO_9.out).2.2 x8_4 p136 q136
                                          obtain rfl : ad135 = ad136 := (by injection e136)
                                          replace p136 := eq_true p136
                                          replace q136 := eq_true q136
                                          go_wp2
                                          repeat (go_quiet (fail); try go_wp2)
                                          go_meet
                                          case rel => exact ⟨_, ((((rd_T26 l2 x50_3).f2) == 0)), (by first | rfl | (simp; done) | (simp [*]; done)), H', ⟨by have := HJ3.out; have := HK2.out; have := HK3.out; have := HK4.out; first | omega | exact Nat.le_refl _⟩, ⟨by (with_reducible repeat (first | apply Kd.R_alloc | apply Kd.R_drewN | apply Kd.R_drew)); exact HO_9.out⟩, ⟨by (with_reducible repeat (first | refine blk_drewN ?_ _ | refine blk_drew ?_ | refine blk_alloc ?_ _)); exact BK134.out⟩, ⟨by repeat (first | (with_reducible first | exact HB.out | apply below_alloc | apply pw_below_drewN | apply below_drew1 | refine below_set ?_ GE134.out) | exact HB.out)⟩⟩
                                    · rw [if_neg c31] at H
                                      have c31b0 : (((rd_T34 t130 x8_4).f0) == ((rd_T26 l2 x50_3).f0)) = false := beq_eq_false_iff_ne.mpr c31
                                      have c31b1 : (((rd_T34 t130 x8_4).f0) != ((rd_T26 l2 x50_3).f0)) = true := bne_iff_ne.mpr c31
                                      have H' := Aside0.mk H
                                      clear H
                                      obtain ⟨Ao40, co40, eo40⟩ := Kd.R_slice HO_9.out
                                      subst eo40
                                      have p135 : 0 ≤ (x8_4 : Int) := of_decide_eq_true (by first | (with_reducible assumption) | assumption)
                                      have q135 : x8_4 < (t130.length : Int) := of_decide_eq_true (by first | (with_reducible assumption) | assumption)
                                      obtain ⟨ad135, e135, hx135_0, hx135_1, hx135_2⟩ := at_T34 (Kd.R_reads' HO_9.out).2.2 x8_4 p135 q135
                                      cases e135
                                      replace p135 := eq_true p135
                                      replace q135 := eq_true q135
                                      have hcz41_0 : wr.cell? ⟨gb134, 0, none⟩ = some (.int .i64 ((rd_T26 l2 x50_3).f0)) := (blk_cell BK134.out 0).trans rfl
                                      have hcz41_1 : wr.cell? ⟨gb134, 1, none⟩ = some (.int .i64 ((rd_T26 l2 x50_3).f1)) := (blk_cell BK134.out 1).trans rfl
                                      have hcz41_2 : wr.cell? ⟨gb134, 2, none⟩ = some (.int .i64 ((rd_T26 l2 x50_3).f2)) := (blk_cell BK134.out 2).trans rfl
                                      have hcz41_3 : wr.cell? ⟨gb134, 3, none⟩ = some (.bool ((rd_T26 l2 x50_3).f3)) := (blk_cell BK134.out 3).trans rfl
                                      have hfz41_0 := blk_frozen BK134.out 0
                                      have hfz41_1 := blk_frozen BK134.out 1
                                      have hfz41_2 := blk_frozen BK134.out 2
                                      have hfz41_3 := blk_frozen BK134.out 3
                                      go_wp2
                                      repeat (go_quiet (fail); try go_wp2)
                                      go_meet
                                      case rel => exact ⟨_, (false), (by first | rfl | (simp; done) | (simp [*]; done)), H', ⟨by have := HJ3.out; have := HK2.out; have := HK3.out; have := HK4.out; first | omega | exact Nat.le_refl _⟩, ⟨by (with_reducible repeat (first | apply Kd.R_alloc | apply Kd.R_drewN | apply Kd.R_drew)); exact HO_9.out⟩, ⟨by (with_reducible repeat (first | refine blk_drewN ?_ _ | refine blk_drew ?_ | refine blk_alloc ?_ _)); exact BK134.out⟩, ⟨by repeat (first | (with_reducible first | exact HB.out | apply below_alloc | apply pw_below_drewN | apply below_drew1 | refine below_set ?_ GE134.out) | exact HB.out)⟩⟩
                                  · rw [if_neg c30] at H
                                    exact absurd H (by simp)
                                · rw [if_neg c29] at H
                                  have c29b0 : decide (x8_4 < (t130.length : Int)) = false := decide_eq_false c29
                                  clear c29
                                  (first | rw [c29b0] | (simp only [i64_w, i32_w]; rw [c29b0]) | skip)
                                  have H' := Aside0.mk H
                                  clear H
                                  obtain ⟨Ao42, co42, eo42⟩ := Kd.R_slice HO_9.out
                                  subst eo42
                                  go_wp2
                                  repeat (go_quiet (fail); try go_wp2)
                                  go_meet
                                  case rel => exact ⟨_, (false), (by first | rfl | (simp; done) | (simp [*]; done)), H', ⟨by have := HJ3.out; have := HK2.out; have := HK3.out; have := HK4.out; first | omega | exact Nat.le_refl _⟩, ⟨by (with_reducible repeat (first | apply Kd.R_alloc | apply Kd.R_drewN | apply Kd.R_drew)); exact HO_9.out⟩, ⟨by (with_reducible repeat (first | refine blk_drewN ?_ _ | refine blk_drew ?_ | refine blk_alloc ?_ _)); exact BK134.out⟩, ⟨by repeat (first | (with_reducible first | exact HB.out | apply below_alloc | apply pw_below_drewN | apply below_drew1 | refine below_set ?_ GE134.out) | exact HB.out)⟩⟩
                              case rest =>
                                clear HC28
                                try clear c1
                                try clear p1
                                try clear q1
                                try clear hx1
                                try clear c2
                                try clear p2
                                try clear c3
                                try clear c4
                                try clear c6
                                try clear p6
                                try clear c11
                                try clear p12
                                try clear q12
                                try clear hx12
                                try clear p13
                                try clear q13
                                try clear hx13
                                try clear c14
                                try clear c14b0
                                try clear c15
                                try clear c15b0
                                try clear c17
                                try clear c17b0
                                try clear c18
                                try clear c18b0
                                try clear c19
                                try clear c19b0
                                try clear c22
                                try clear c22b0
                                try clear c23
                                try clear c23b0
                                try clear c24
                                try clear c24b0
                                try clear c29
                                try clear c29b0
                                try clear c30
                                try clear c30b0
                                try clear c31
                                try clear c31b0
                                try clear c31b1
                                try clear c32
                                try clear c35
                                try clear c35b0
                                try clear hcz27_0
                                try clear hcz27_1
                                try clear hcz27_2
                                try clear hcz27_3
                                try clear hcz34_0
                                try clear hcz34_1
                                try clear hcz34_2
                                try clear hcz34_3
                                try clear hcz37_0
                                try clear hcz37_1
                                try clear hcz37_2
                                try clear hcz37_3
                                try clear hcz39_0
                                try clear hcz39_1
                                try clear hcz39_2
                                try clear hcz39_3
                                try clear hcz41_0
                                try clear hcz41_1
                                try clear hcz41_2
                                try clear hcz41_3
                                try clear hfz27_0
                                try clear hfz27_1
                                try clear hfz27_2
                                try clear hfz27_3
                                try clear hfz34_0
                                try clear hfz34_1
                                try clear hfz34_2
                                try clear hfz34_3
                                try clear hfz37_0
                                try clear hfz37_1
                                try clear hfz37_2
                                try clear hfz37_3
                                try clear hfz39_0
                                try clear hfz39_1
                                try clear hfz39_2
                                try clear hfz39_3
                                try clear hfz41_0
                                try clear hfz41_1
                                try clear hfz41_2
                                try clear hfz41_3
                                try clear hx128_0
                                try clear hx128_1
                                try clear hx128_2
                                try clear hx128_3
                                try clear hx129_0
                                try clear hx129_1
                                try clear hx129_2
                                try clear hx129_3
                                try clear hx133_0
                                try clear hx133_1
                                try clear hx133_2
                                try clear hx133_3
                                try clear hx135_0
                                try clear hx135_1
                                try clear hx135_2
                                try clear hx136_0
                                try clear hx136_1
                                try clear hx136_2
                                try clear p1
                                try clear p12
                                try clear p128
                                try clear p129
                                try clear p13
                                try clear p133
                                try clear p135
                                try clear p136
                                try clear p2
                                try clear p6
                                try clear q1
                                try clear q12
                                try clear q128
                                try clear q129
                                try clear q13
                                try clear q133
                                try clear q135
                                try clear q136
                                obtain ⟨kq, x84_27, rfl, HA, HJ27, HO_9, BK134, HB⟩ := hcut
                                cases kq with
                                | zero => exact absurd HA.out (by simp [bywashlaw16_PumpFits.j4])
                                | succ kj27 =>
                                  have H := HA.out
                                  clear HA
                                  simp only [bywashlaw16_PumpFits.j4] at H
                                  by_cases c43 : x84_27 = true
                                  · subst c43
                                    have H1 : (if 0 ≤ x8_4 then (if x8_4 < (t130.length : Int) then (if ((rd_T34 t130 x8_4).f1) < 0 then (bywashlaw16_PumpFits.j5 kj27 a1 x8_4 t130 x10_3 x13_4 l2 (l2.length : Int) x50_3 true ((rd_T26 l2 x50_3).f0) ((rd_T26 l2 x50_3).f1) ((rd_T26 l2 x50_3).f2) ((rd_T26 l2 x50_3).f3)) else (bywashlaw16_PumpFits.j5 kj27 a1 x8_4 t130 x10_3 x13_4 l2 (l2.length : Int) x50_3 (decide (((rd_T34 t130 x8_4).f1) > (mx a1 0))) ((rd_T26 l2 x50_3).f0) ((rd_T26 l2 x50_3).f1) ((rd_T26 l2 x50_3).f2) ((rd_T26 l2 x50_3).f3))) else (none)) else (none)) = some r := by rw [if_pos rfl] at H; exact H
                                    clear H
                                    have H := H1
                                    clear H1
                                    have HC44 := Aside0.mk H
                                    clear H
                                    go_upto_region 16 with (fail)
                                    repeat (go_quiet (fail); go_upto_region 16 with (fail))
                                    go_cut [100] (fun v100 wc => ∃ (kq : Nat) (x100_43 : Bool), v100 = .bool x100_43 ∧ Aside0 (bywashlaw16_PumpFits.j5 kq a1 x8_4 t130 x10_3 x13_4 l2 (l2.length : Int) x50_3 x100_43 ((rd_T26 l2 x50_3).f0) ((rd_T26 l2 x50_3).f1) ((rd_T26 l2 x50_3).f2) ((rd_T26 l2 x50_3).f3) = some r) ∧ Aside0 (kq ≤ kj27) ∧ Aside0 (Kd.R k34 34 wc w.heap.size (fun _ => True) v131 t130) ∧ Aside0 (wc.heap[gb134]? = some (.cells #[.int .i64 ((rd_T26 l2 x50_3).f0), .int .i64 ((rd_T26 l2 x50_3).f1), .int .i64 ((rd_T26 l2 x50_3).f2), .bool ((rd_T26 l2 x50_3).f3)] 26 (0, 0))) ∧ Aside0 (Below w.heap.size w wc))
                                    case first =>
                                      have H := HC44.out
                                      clear HC44
                                      by_cases c45 : 0 ≤ x8_4
                                      · rw [if_pos c45] at H
                                        have c45b0 : decide (0 ≤ x8_4) = true := decide_eq_true c45
                                        clear c45
                                        (first | rw [c45b0] | (simp only [i64_w, i32_w]; rw [c45b0]) | skip)
                                        by_cases c46 : x8_4 < (t130.length : Int)
                                        · rw [if_pos c46] at H
                                          have c46b0 : decide (x8_4 < (t130.length : Int)) = true := decide_eq_true c46
                                          clear c46
                                          by_cases c47 : ((rd_T34 t130 x8_4).f1) < 0
                                          · rw [if_pos c47] at H
                                            have c47b0 : decide (((rd_T34 t130 x8_4).f1) < 0) = true := decide_eq_true c47
                                            clear c47
                                            have H' := Aside0.mk H
                                            clear H
                                            obtain ⟨Ao48, co48, eo48⟩ := Kd.R_slice HO_9.out
                                            subst eo48
                                            have p137 : 0 ≤ (x8_4 : Int) := of_decide_eq_true (by first | (with_reducible assumption) | assumption)
                                            have q137 : x8_4 < (t130.length : Int) := of_decide_eq_true (by first | (with_reducible assumption) | assumption)
                                            obtain ⟨ad137, e137, hx137_0, hx137_1, hx137_2⟩ := at_T34 (Kd.R_reads' HO_9.out).2.2 x8_4 p137 q137
                                            cases e137
                                            replace p137 := eq_true p137
                                            replace q137 := eq_true q137
                                            go_wp2
                                            repeat (go_quiet (fail); try go_wp2)
                                            go_meet
                                            case rel => exact ⟨_, (true), (by first | rfl | (simp; done) | (simp [*]; done)), H', ⟨by have := HJ3.out; have := HK2.out; have := HK3.out; have := HK4.out; have := HJ27.out; first | omega | exact Nat.le_refl _⟩, ⟨by (with_reducible repeat (first | apply Kd.R_alloc | apply Kd.R_drewN | apply Kd.R_drew)); exact HO_9.out⟩, ⟨by (with_reducible repeat (first | refine blk_drewN ?_ _ | refine blk_drew ?_ | refine blk_alloc ?_ _)); exact BK134.out⟩, ⟨by repeat (first | (with_reducible first | exact HB.out | apply below_alloc | apply pw_below_drewN | apply below_drew1 | refine below_set ?_ GE134.out) | exact HB.out)⟩⟩
                                          · rw [if_neg c47] at H
                                            have c47b0 : decide (((rd_T34 t130 x8_4).f1) < 0) = false := decide_eq_false c47
                                            clear c47
                                            obtain ⟨ji49, hji49⟩ : ∃ j_ : Int, (mx a1 0) = j_ := ⟨_, rfl⟩
                                            replace H : (bywashlaw16_PumpFits.j5 kj27 a1 x8_4 t130 x10_3 x13_4 l2 (l2.length : Int) x50_3 (decide (((rd_T34 t130 x8_4).f1) > (ji49))) ((rd_T26 l2 x50_3).f0) ((rd_T26 l2 x50_3).f1) ((rd_T26 l2 x50_3).f2) ((rd_T26 l2 x50_3).f3)) = some r := by first | (rw [hji49] at H; exact H) | (simp only [hji49] at H ⊢; exact H)
                                            have hji49_ : (if a1 < 0 then 0 else a1) = ji49 := hji49
                                            have H' := Aside0.mk H
                                            clear H
                                            obtain ⟨Ao50, co50, eo50⟩ := Kd.R_slice HO_9.out
                                            subst eo50
                                            have p137 : 0 ≤ (x8_4 : Int) := of_decide_eq_true (by first | (with_reducible assumption) | assumption)
                                            have q137 : x8_4 < (t130.length : Int) := of_decide_eq_true (by first | (with_reducible assumption) | assumption)
                                            obtain ⟨ad137, e137, hx137_0, hx137_1, hx137_2⟩ := at_T34 (Kd.R_reads' HO_9.out).2.2 x8_4 p137 q137
                                            cases e137
                                            replace p137 := eq_true p137
                                            replace q137 := eq_true q137
                                            have p138 : 0 ≤ (x8_4 : Int) := of_decide_eq_true (by first | (with_reducible assumption) | assumption)
                                            have q138 : x8_4 < (t130.length : Int) := of_decide_eq_true (by first | (with_reducible assumption) | assumption)
                                            obtain ⟨ad138, e138, hx138_0, hx138_1, hx138_2⟩ := at_T34 (Kd.R_reads' HO_9.out).2.2 x8_4 p138 q138
                                            obtain rfl : ad137 = ad138 := (by injection e138)
                                            replace p138 := eq_true p138
                                            replace q138 := eq_true q138
                                            go_wp2
                                            repeat (go_quiet (fail); try go_wp2)
                                            go_meet
                                            case rel => exact ⟨_, (decide (((rd_T34 t130 x8_4).f1) > (ji49))), (by first | rfl | (simp; done) | (simp only [← hji49] <;> (first | rfl | simp)) | (simp [*]; done)), H', ⟨by have := HJ3.out; have := HK2.out; have := HK3.out; have := HK4.out; have := HJ27.out; first | omega | exact Nat.le_refl _⟩, ⟨by (with_reducible repeat (first | apply Kd.R_alloc | apply Kd.R_drewN | apply Kd.R_drew)); exact HO_9.out⟩, ⟨by (with_reducible repeat (first | refine blk_drewN ?_ _ | refine blk_drew ?_ | refine blk_alloc ?_ _)); exact BK134.out⟩, ⟨by repeat (first | (with_reducible first | exact HB.out | apply below_alloc | apply pw_below_drewN | apply below_drew1 | refine below_set ?_ GE134.out) | exact HB.out)⟩⟩
                                        · rw [if_neg c46] at H
                                          exact absurd H (by simp)
                                      · rw [if_neg c45] at H
                                        exact absurd H (by simp)
                                    case rest =>
                                      clear HC44
                                      try clear c1
                                      try clear p1
                                      try clear q1
                                      try clear hx1
                                      try clear c2
                                      try clear p2
                                      try clear c3
                                      try clear c4
                                      try clear c6
                                      try clear p6
                                      try clear c11
                                      try clear p12
                                      try clear q12
                                      try clear hx12
                                      try clear p13
                                      try clear q13
                                      try clear hx13
                                      try clear c14
                                      try clear c14b0
                                      try clear c15
                                      try clear c15b0
                                      try clear c17
                                      try clear c17b0
                                      try clear c18
                                      try clear c18b0
                                      try clear c19
                                      try clear c19b0
                                      try clear c22
                                      try clear c22b0
                                      try clear c23
                                      try clear c23b0
                                      try clear c24
                                      try clear c24b0
                                      try clear c29
                                      try clear c29b0
                                      try clear c30
                                      try clear c30b0
                                      try clear c31
                                      try clear c31b0
                                      try clear c31b1
                                      try clear c32
                                      try clear c35
                                      try clear c35b0
                                      try clear c43
                                      try clear c45
                                      try clear c45b0
                                      try clear c46
                                      try clear c46b0
                                      try clear c47
                                      try clear c47b0
                                      try clear hcz27_0
                                      try clear hcz27_1
                                      try clear hcz27_2
                                      try clear hcz27_3
                                      try clear hcz34_0
                                      try clear hcz34_1
                                      try clear hcz34_2
                                      try clear hcz34_3
                                      try clear hcz37_0
                                      try clear hcz37_1
                                      try clear hcz37_2
                                      try clear hcz37_3
                                      try clear hcz39_0
                                      try clear hcz39_1
                                      try clear hcz39_2
                                      try clear hcz39_3
                                      try clear hcz41_0
                                      try clear hcz41_1
                                      try clear hcz41_2
                                      try clear hcz41_3
                                      try clear hfz27_0
                                      try clear hfz27_1
                                      try clear hfz27_2
                                      try clear hfz27_3
                                      try clear hfz34_0
                                      try clear hfz34_1
                                      try clear hfz34_2
                                      try clear hfz34_3
                                      try clear hfz37_0
                                      try clear hfz37_1
                                      try clear hfz37_2
                                      try clear hfz37_3
                                      try clear hfz39_0
                                      try clear hfz39_1
                                      try clear hfz39_2
                                      try clear hfz39_3
                                      try clear hfz41_0
                                      try clear hfz41_1
                                      try clear hfz41_2
                                      try clear hfz41_3
                                      try clear hx128_0
                                      try clear hx128_1
                                      try clear hx128_2
                                      try clear hx128_3
                                      try clear hx129_0
                                      try clear hx129_1
                                      try clear hx129_2
                                      try clear hx129_3
                                      try clear hx133_0
                                      try clear hx133_1
                                      try clear hx133_2
                                      try clear hx133_3
                                      try clear hx135_0
                                      try clear hx135_1
                                      try clear hx135_2
                                      try clear hx136_0
                                      try clear hx136_1
                                      try clear hx136_2
                                      try clear hx137_0
                                      try clear hx137_1
                                      try clear hx137_2
                                      try clear hx138_0
                                      try clear hx138_1
                                      try clear hx138_2
                                      try clear p1
                                      try clear p12
                                      try clear p128
                                      try clear p129
                                      try clear p13
                                      try clear p133
                                      try clear p135
                                      try clear p136
                                      try clear p137
                                      try clear p138
                                      try clear p2
                                      try clear p6
                                      try clear q1
                                      try clear q12
                                      try clear q128
                                      try clear q129
                                      try clear q13
                                      try clear q133
                                      try clear q135
                                      try clear q136
                                      try clear q137
                                      try clear q138
                                      obtain ⟨kq, x100_43, rfl, HA, HJ43, HO_9, BK134, HB⟩ := hcut
                                      cases kq with
                                      | zero => exact absurd HA.out (by simp [bywashlaw16_PumpFits.j5])
                                      | succ kj43 =>
                                        have H := HA.out
                                        clear HA
                                        simp only [bywashlaw16_PumpFits.j5] at H
                                        by_cases c51 : x100_43 = true
                                        · subst c51
                                          have H1 : (some false) = some r := by rw [if_pos rfl] at H; exact H
                                          clear H
                                          have H := H1
                                          clear H1
                                          obtain rfl := Option.some.inj H
                                          go_wp2
                                          repeat (go_quiet (fail); try go_wp2)
                                          go_ret
                                          exact ⟨by first | rfl | (simp [errW_none, errW_some] <;> rfl) | (simp [*, errW_none, errW_some] <;> rfl), by repeat (first | (with_reducible first | exact HB.out | apply below_alloc | apply pw_below_drewN | apply below_drew1 | refine below_set ?_ GE134.out) | exact HB.out)⟩
                                        · replace c51 := Bool.eq_false_iff.mpr c51
                                          subst c51
                                          have H1 : (if 0 ≤ x8_4 then (if x8_4 < (t130.length : Int) then (if ((rd_T26 l2 x50_3).f2) = 0 then (bywashlaw16_PumpFits.j6 kj43 a1 (wrap64 (x8_4 + 1)) t130 x10_3 (wrap64 (x13_4 + ((rd_T34 t130 x8_4).f1))) ((rd_T34 t130 x8_4).f2) l2 (l2.length : Int) x50_3 ((rd_T26 l2 x50_3).f0) ((rd_T26 l2 x50_3).f1) ((rd_T26 l2 x50_3).f2) ((rd_T26 l2 x50_3).f3)) else (if (wrap64 (x13_4 + ((rd_T34 t130 x8_4).f1))) = (mn (mn ((rd_T26 l2 x50_3).f2) ((rd_T26 l2 x50_3).f1)) x10_3) then (bywashlaw16_PumpFits.j6 kj43 a1 (wrap64 (x8_4 + 1)) t130 x10_3 (wrap64 (x13_4 + ((rd_T34 t130 x8_4).f1))) ((rd_T34 t130 x8_4).f2) l2 (l2.length : Int) x50_3 ((rd_T26 l2 x50_3).f0) ((rd_T26 l2 x50_3).f1) ((rd_T26 l2 x50_3).f2) ((rd_T26 l2 x50_3).f3)) else (bywashlaw16_PumpFits.l2 kj43 a1 (wrap64 (x8_4 + 1)) t130 x10_3 (wrap64 (x13_4 + ((rd_T34 t130 x8_4).f1))) ((rd_T34 t130 x8_4).f2) l2 (l2.length : Int) x50_3 ((rd_T26 l2 x50_3).f0) ((rd_T26 l2 x50_3).f1) ((rd_T26 l2 x50_3).f2) ((rd_T26 l2 x50_3).f3)))) else (none)) else (none)) = some r := by rw [if_neg (show ¬ (false = true) by decide)] at H; exact H
                                          clear H
                                          have H := H1
                                          clear H1
                                          by_cases c52 : 0 ≤ x8_4
                                          · rw [if_pos c52] at H
                                            have c52b0 : decide (0 ≤ x8_4) = true := decide_eq_true c52
                                            clear c52
                                            by_cases c53 : x8_4 < (t130.length : Int)
                                            · rw [if_pos c53] at H
                                              have c53b0 : decide (x8_4 < (t130.length : Int)) = true := decide_eq_true c53
                                              clear c53
                                              by_cases c54 : ((rd_T26 l2 x50_3).f2) = 0
                                              · rw [if_pos c54] at H
                                                have c54b0 : (((rd_T26 l2 x50_3).f2) == 0) = true := beq_iff_eq.mpr c54
                                                have c54b1 : (((rd_T26 l2 x50_3).f2) != 0) = false := bne_eq_false_iff_eq.mpr c54
                                                clear c54
                                                have H' := Aside0.mk H
                                                clear H
                                                obtain ⟨Ao55, co55, eo55⟩ := Kd.R_slice HO_9.out
                                                subst eo55
                                                have p139 : 0 ≤ (x8_4 : Int) := of_decide_eq_true (by first | (with_reducible assumption) | assumption)
                                                have q139 : x8_4 < (t130.length : Int) := of_decide_eq_true (by first | (with_reducible assumption) | assumption)
                                                obtain ⟨ad139, e139, hx139_0, hx139_1, hx139_2⟩ := at_T34 (Kd.R_reads' HO_9.out).2.2 x8_4 p139 q139
                                                cases e139
                                                replace p139 := eq_true p139
                                                replace q139 := eq_true q139
                                                have p140 : 0 ≤ (x8_4 : Int) := of_decide_eq_true (by first | (with_reducible assumption) | assumption)
                                                have q140 : x8_4 < (t130.length : Int) := of_decide_eq_true (by first | (with_reducible assumption) | assumption)
                                                obtain ⟨ad140, e140, hx140_0, hx140_1, hx140_2⟩ := at_T34 (Kd.R_reads' HO_9.out).2.2 x8_4 p140 q140
                                                obtain rfl : ad139 = ad140 := (by injection e140)
                                                replace p140 := eq_true p140
                                                replace q140 := eq_true q140
                                                have hcz56_0 : wc.cell? ⟨gb134, 0, none⟩ = some (.int .i64 ((rd_T26 l2 x50_3).f0)) := (blk_cell BK134.out 0).trans rfl
                                                have hcz56_1 : wc.cell? ⟨gb134, 1, none⟩ = some (.int .i64 ((rd_T26 l2 x50_3).f1)) := (blk_cell BK134.out 1).trans rfl
                                                have hcz56_2 : wc.cell? ⟨gb134, 2, none⟩ = some (.int .i64 ((rd_T26 l2 x50_3).f2)) := (blk_cell BK134.out 2).trans rfl
                                                have hcz56_3 : wc.cell? ⟨gb134, 3, none⟩ = some (.bool ((rd_T26 l2 x50_3).f3)) := (blk_cell BK134.out 3).trans rfl
                                                have hfz56_0 := blk_frozen BK134.out 0
                                                have hfz56_1 := blk_frozen BK134.out 1
                                                have hfz56_2 := blk_frozen BK134.out 2
                                                have hfz56_3 := blk_frozen BK134.out 3
                                                go_wp2
                                                repeat (go_quiet (fail); try go_wp2)
                                                go_meet
                                                case rel => exact ⟨_, (wrap64 (x8_4 + 1)), (wrap64 (x13_4 + ((rd_T34 t130 x8_4).f1))), ((rd_T34 t130 x8_4).f2), (by first | rfl | (simp; done) | (simp [*]; done)), (by first | rfl | (simp; done) | (simp [*]; done)), (by first | rfl | (simp; done) | (simp [*]; done)), H', ⟨by have := HJ3.out; have := HK2.out; have := HK3.out; have := HK4.out; have := HJ27.out; have := HJ43.out; first | omega | exact Nat.le_refl _⟩, ⟨by (with_reducible repeat (first | apply Kd.R_alloc | apply Kd.R_drewN | apply Kd.R_drew)); exact HO_9.out⟩, ⟨by (with_reducible repeat (first | refine blk_drewN ?_ _ | refine blk_drew ?_ | refine blk_alloc ?_ _)); exact BK134.out⟩, ⟨by repeat (first | (with_reducible first | exact HB.out | apply below_alloc | apply pw_below_drewN | apply below_drew1 | refine below_set ?_ GE134.out) | exact HB.out)⟩⟩
                                              · rw [if_neg c54] at H
                                                have c54b0 : (((rd_T26 l2 x50_3).f2) == 0) = false := beq_eq_false_iff_ne.mpr c54
                                                have c54b1 : (((rd_T26 l2 x50_3).f2) != 0) = true := bne_iff_ne.mpr c54
                                                obtain ⟨ji57, hji57⟩ : ∃ j_ : Int, (mn ((rd_T26 l2 x50_3).f2) ((rd_T26 l2 x50_3).f1)) = j_ := ⟨_, rfl⟩
                                                replace H : (if (wrap64 (x13_4 + ((rd_T34 t130 x8_4).f1))) = (mn (ji57) x10_3) then (bywashlaw16_PumpFits.j6 kj43 a1 (wrap64 (x8_4 + 1)) t130 x10_3 (wrap64 (x13_4 + ((rd_T34 t130 x8_4).f1))) ((rd_T34 t130 x8_4).f2) l2 (l2.length : Int) x50_3 ((rd_T26 l2 x50_3).f0) ((rd_T26 l2 x50_3).f1) ((rd_T26 l2 x50_3).f2) ((rd_T26 l2 x50_3).f3)) else (bywashlaw16_PumpFits.l2 kj43 a1 (wrap64 (x8_4 + 1)) t130 x10_3 (wrap64 (x13_4 + ((rd_T34 t130 x8_4).f1))) ((rd_T34 t130 x8_4).f2) l2 (l2.length : Int) x50_3 ((rd_T26 l2 x50_3).f0) ((rd_T26 l2 x50_3).f1) ((rd_T26 l2 x50_3).f2) ((rd_T26 l2 x50_3).f3))) = some r := by first | (rw [hji57] at H; exact H) | (simp only [hji57] at H ⊢; exact H)
                                                have hji57_ : (if ((rd_T26 l2 x50_3).f1) < ((rd_T26 l2 x50_3).f2) then ((rd_T26 l2 x50_3).f1) else ((rd_T26 l2 x50_3).f2)) = ji57 := hji57
                                                obtain ⟨ji58, hji58⟩ : ∃ j_ : Int, (mn (ji57) x10_3) = j_ := ⟨_, rfl⟩
                                                replace H : (if (wrap64 (x13_4 + ((rd_T34 t130 x8_4).f1))) = (ji58) then (bywashlaw16_PumpFits.j6 kj43 a1 (wrap64 (x8_4 + 1)) t130 x10_3 (wrap64 (x13_4 + ((rd_T34 t130 x8_4).f1))) ((rd_T34 t130 x8_4).f2) l2 (l2.length : Int) x50_3 ((rd_T26 l2 x50_3).f0) ((rd_T26 l2 x50_3).f1) ((rd_T26 l2 x50_3).f2) ((rd_T26 l2 x50_3).f3)) else (bywashlaw16_PumpFits.l2 kj43 a1 (wrap64 (x8_4 + 1)) t130 x10_3 (wrap64 (x13_4 + ((rd_T34 t130 x8_4).f1))) ((rd_T34 t130 x8_4).f2) l2 (l2.length : Int) x50_3 ((rd_T26 l2 x50_3).f0) ((rd_T26 l2 x50_3).f1) ((rd_T26 l2 x50_3).f2) ((rd_T26 l2 x50_3).f3))) = some r := by first | (rw [hji58] at H; exact H) | (simp only [hji58] at H ⊢; exact H)
                                                have hji58_ : (if x10_3 < (ji57) then x10_3 else (ji57)) = ji58 := hji58
                                                by_cases c59 : (wrap64 (x13_4 + ((rd_T34 t130 x8_4).f1))) = (ji58)
                                                · rw [if_pos c59] at H
                                                  have c59b0 : ((wrap64 (x13_4 + ((rd_T34 t130 x8_4).f1))) == (ji58)) = true := beq_iff_eq.mpr c59
                                                  have c59b1 : ((wrap64 (x13_4 + ((rd_T34 t130 x8_4).f1))) != (ji58)) = false := bne_eq_false_iff_eq.mpr c59
                                                  clear c59
                                                  have H' := Aside0.mk H
                                                  clear H
                                                  obtain ⟨Ao60, co60, eo60⟩ := Kd.R_slice HO_9.out
                                                  subst eo60
                                                  have p139 : 0 ≤ (x8_4 : Int) := of_decide_eq_true (by first | (with_reducible assumption) | assumption)
                                                  have q139 : x8_4 < (t130.length : Int) := of_decide_eq_true (by first | (with_reducible assumption) | assumption)
                                                  obtain ⟨ad139, e139, hx139_0, hx139_1, hx139_2⟩ := at_T34 (Kd.R_reads' HO_9.out).2.2 x8_4 p139 q139
                                                  cases e139
                                                  replace p139 := eq_true p139
                                                  replace q139 := eq_true q139
                                                  have p140 : 0 ≤ (x8_4 : Int) := of_decide_eq_true (by first | (with_reducible assumption) | assumption)
                                                  have q140 : x8_4 < (t130.length : Int) := of_decide_eq_true (by first | (with_reducible assumption) | assumption)
                                                  obtain ⟨ad140, e140, hx140_0, hx140_1, hx140_2⟩ := at_T34 (Kd.R_reads' HO_9.out).2.2 x8_4 p140 q140
                                                  obtain rfl : ad139 = ad140 := (by injection e140)
                                                  replace p140 := eq_true p140
                                                  replace q140 := eq_true q140
                                                  have hcz61_0 : wc.cell? ⟨gb134, 0, none⟩ = some (.int .i64 ((rd_T26 l2 x50_3).f0)) := (blk_cell BK134.out 0).trans rfl
                                                  have hcz61_1 : wc.cell? ⟨gb134, 1, none⟩ = some (.int .i64 ((rd_T26 l2 x50_3).f1)) := (blk_cell BK134.out 1).trans rfl
                                                  have hcz61_2 : wc.cell? ⟨gb134, 2, none⟩ = some (.int .i64 ((rd_T26 l2 x50_3).f2)) := (blk_cell BK134.out 2).trans rfl
                                                  have hcz61_3 : wc.cell? ⟨gb134, 3, none⟩ = some (.bool ((rd_T26 l2 x50_3).f3)) := (blk_cell BK134.out 3).trans rfl
                                                  have hfz61_0 := blk_frozen BK134.out 0
                                                  have hfz61_1 := blk_frozen BK134.out 1
                                                  have hfz61_2 := blk_frozen BK134.out 2
                                                  have hfz61_3 := blk_frozen BK134.out 3
                                                  go_wp2
                                                  repeat (go_quiet (fail); try go_wp2)
                                                  go_meet
                                                  case rel => exact ⟨_, (wrap64 (x8_4 + 1)), (wrap64 (x13_4 + ((rd_T34 t130 x8_4).f1))), ((rd_T34 t130 x8_4).f2), (by first | rfl | (simp; done) | (simp [*]; done)), (by first | rfl | (simp; done) | (simp [*]; done)), (by first | rfl | (simp; done) | (simp [*]; done)), H', ⟨by have := HJ3.out; have := HK2.out; have := HK3.out; have := HK4.out; have := HJ27.out; have := HJ43.out; first | omega | exact Nat.le_refl _⟩, ⟨by (with_reducible repeat (first | apply Kd.R_alloc | apply Kd.R_drewN | apply Kd.R_drew)); exact HO_9.out⟩, ⟨by (with_reducible repeat (first | refine blk_drewN ?_ _ | refine blk_drew ?_ | refine blk_alloc ?_ _)); exact BK134.out⟩, ⟨by repeat (first | (with_reducible first | exact HB.out | apply below_alloc | apply pw_below_drewN | apply below_drew1 | refine below_set ?_ GE134.out) | exact HB.out)⟩⟩
                                                · rw [if_neg c59] at H
                                                  have c59b0 : ((wrap64 (x13_4 + ((rd_T34 t130 x8_4).f1))) == (ji58)) = false := beq_eq_false_iff_ne.mpr c59
                                                  have c59b1 : ((wrap64 (x13_4 + ((rd_T34 t130 x8_4).f1))) != (ji58)) = true := bne_iff_ne.mpr c59
                                                  have H' := Aside0.mk H
                                                  clear H
                                                  obtain ⟨Ao62, co62, eo62⟩ := Kd.R_slice HO_9.out
                                                  subst eo62
                                                  have p139 : 0 ≤ (x8_4 : Int) := of_decide_eq_true (by first | (with_reducible assumption) | assumption)
                                                  have q139 : x8_4 < (t130.length : Int) := of_decide_eq_true (by first | (with_reducible assumption) | assumption)
                                                  obtain ⟨ad139, e139, hx139_0, hx139_1, hx139_2⟩ := at_T34 (Kd.R_reads' HO_9.out).2.2 x8_4 p139 q139
                                                  cases e139
                                                  replace p139 := eq_true p139
                                                  replace q139 := eq_true q139
                                                  have p140 : 0 ≤ (x8_4 : Int) := of_decide_eq_true (by first | (with_reducible assumption) | assumption)
                                                  have q140 : x8_4 < (t130.length : Int) := of_decide_eq_true (by first | (with_reducible assumption) | assumption)
                                                  obtain ⟨ad140, e140, hx140_0, hx140_1, hx140_2⟩ := at_T34 (Kd.R_reads' HO_9.out).2.2 x8_4 p140 q140
                                                  obtain rfl : ad139 = ad140 := (by injection e140)
                                                  replace p140 := eq_true p140
                                                  replace q140 := eq_true q140
                                                  have hcz63_0 : wc.cell? ⟨gb134, 0, none⟩ = some (.int .i64 ((rd_T26 l2 x50_3).f0)) := (blk_cell BK134.out 0).trans rfl
                                                  have hcz63_1 : wc.cell? ⟨gb134, 1, none⟩ = some (.int .i64 ((rd_T26 l2 x50_3).f1)) := (blk_cell BK134.out 1).trans rfl
                                                  have hcz63_2 : wc.cell? ⟨gb134, 2, none⟩ = some (.int .i64 ((rd_T26 l2 x50_3).f2)) := (blk_cell BK134.out 2).trans rfl
                                                  have hcz63_3 : wc.cell? ⟨gb134, 3, none⟩ = some (.bool ((rd_T26 l2 x50_3).f3)) := (blk_cell BK134.out 3).trans rfl
                                                  have hfz63_0 := blk_frozen BK134.out 0
                                                  have hfz63_1 := blk_frozen BK134.out 1
                                                  have hfz63_2 := blk_frozen BK134.out 2
                                                  have hfz63_3 := blk_frozen BK134.out 3
                                                  go_wp2
                                                  repeat (go_quiet (fail); try go_wp2)
                                                  go_roundg kj43
                                                  case measure => have := HJ3.out; have := HK2.out; have := HK3.out; have := HK4.out; have := HJ27.out; have := HJ43.out; omega
                                                  case rel => exact ⟨(wrap64 (x8_4 + 1)), (wrap64 (x13_4 + ((rd_T34 t130 x8_4).f1))), ((rd_T34 t130 x8_4).f2), (by first | rfl | (simp; done) | (simp [*]; done)), (by first | rfl | (simp; done) | (simp [*]; done)), (by first | rfl | (simp; done) | (simp [*]; done)), H', ⟨by have := HJ3.out; have := HK2.out; have := HK3.out; have := HK4.out; have := HJ27.out; have := HJ43.out; omega⟩, ⟨by (with_reducible repeat (first | apply Kd.R_alloc | apply Kd.R_drewN | apply Kd.R_drew)); exact HO_9.out⟩, ⟨by (with_reducible repeat (first | refine blk_drewN ?_ _ | refine blk_drew ?_ | refine blk_alloc ?_ _)); exact BK134.out⟩, ⟨by repeat (first | (with_reducible first | exact HB.out | apply below_alloc | apply pw_below_drewN | apply below_drew1 | refine below_set ?_ GE134.out) | exact HB.out)⟩⟩
                                            · rw [if_neg c53] at H
                                              exact absurd H (by simp)
                                          · rw [if_neg c52] at H
                                            exact absurd H (by simp)
                                  · replace c43 := Bool.eq_false_iff.mpr c43
                                    subst c43
                                    have H1 : (bywashlaw16_PumpFits.j6 kj27 a1 x8_4 t130 x10_3 x13_4 x14_4 l2 (l2.length : Int) x50_3 ((rd_T26 l2 x50_3).f0) ((rd_T26 l2 x50_3).f1) ((rd_T26 l2 x50_3).f2) ((rd_T26 l2 x50_3).f3)) = some r := by rw [if_neg (show ¬ (false = true) by decide)] at H; exact H
                                    clear H
                                    have H := H1
                                    clear H1
                                    have H' := Aside0.mk H
                                    clear H
                                    go_wp2
                                    repeat (go_quiet (fail); try go_wp2)
                                    go_meet
                                    case rel => exact ⟨_, (x8_4), (x13_4), (x14_4), (by first | rfl | (simp; done) | (simp [*]; done)), (by first | rfl | (simp; done) | (simp [*]; done)), (by first | rfl | (simp; done) | (simp [*]; done)), H', ⟨by have := HJ3.out; have := HK2.out; have := HK3.out; have := HK4.out; have := HJ27.out; first | omega | exact Nat.le_refl _⟩, ⟨by (with_reducible repeat (first | apply Kd.R_alloc | apply Kd.R_drewN | apply Kd.R_drew)); exact HO_9.out⟩, ⟨by (with_reducible repeat (first | refine blk_drewN ?_ _ | refine blk_drew ?_ | refine blk_alloc ?_ _)); exact BK134.out⟩, ⟨by repeat (first | (with_reducible first | exact HB.out | apply below_alloc | apply pw_below_drewN | apply below_drew1 | refine below_set ?_ GE134.out) | exact HB.out)⟩⟩
                        case rest =>
                          clear HC25
                          try clear c1
                          try clear p1
                          try clear q1
                          try clear hx1
                          try clear c2
                          try clear p2
                          try clear c3
                          try clear c4
                          try clear c5
                          try clear c6
                          try clear p6
                          try clear c11
                          try clear p12
                          try clear q12
                          try clear hx12
                          try clear p13
                          try clear q13
                          try clear hx13
                          try clear c14
                          try clear c14b0
                          try clear p14
                          try clear q14
                          try clear hx14
                          try clear c15
                          try clear c15b0
                          try clear c17
                          try clear c17b0
                          try clear c18
                          try clear c18b0
                          try clear c19
                          try clear c19b0
                          try clear c22
                          try clear c22b0
                          try clear c23
                          try clear c23b0
                          try clear c24
                          try clear c24b0
                          try clear c29
                          try clear c29b0
                          try clear c30
                          try clear c30b0
                          try clear c31
                          try clear c31b0
                          try clear c31b1
                          try clear c32
                          try clear c35
                          try clear c35b0
                          try clear c43
                          try clear c45
                          try clear c45b0
                          try clear c46
                          try clear c46b0
                          try clear c47
                          try clear c47b0
                          try clear c51
                          try clear c52
                          try clear c52b0
                          try clear c53
                          try clear c53b0
                          try clear c54
                          try clear c54b0
                          try clear c54b1
                          try clear c59
                          try clear c59b0
                          try clear c59b1
                          try clear hcz27_0
                          try clear hcz27_1
                          try clear hcz27_2
                          try clear hcz27_3
                          try clear hcz34_0
                          try clear hcz34_1
                          try clear hcz34_2
                          try clear hcz34_3
                          try clear hcz37_0
                          try clear hcz37_1
                          try clear hcz37_2
                          try clear hcz37_3
                          try clear hcz39_0
                          try clear hcz39_1
                          try clear hcz39_2
                          try clear hcz39_3
                          try clear hcz41_0
                          try clear hcz41_1
                          try clear hcz41_2
                          try clear hcz41_3
                          try clear hcz56_0
                          try clear hcz56_1
                          try clear hcz56_2
                          try clear hcz56_3
                          try clear hcz61_0
                          try clear hcz61_1
                          try clear hcz61_2
                          try clear hcz61_3
                          try clear hcz63_0
                          try clear hcz63_1
                          try clear hcz63_2
                          try clear hcz63_3
                          try clear hfz27_0
                          try clear hfz27_1
                          try clear hfz27_2
                          try clear hfz27_3
                          try clear hfz34_0
                          try clear hfz34_1
                          try clear hfz34_2
                          try clear hfz34_3
                          try clear hfz37_0
                          try clear hfz37_1
                          try clear hfz37_2
                          try clear hfz37_3
                          try clear hfz39_0
                          try clear hfz39_1
                          try clear hfz39_2
                          try clear hfz39_3
                          try clear hfz41_0
                          try clear hfz41_1
                          try clear hfz41_2
                          try clear hfz41_3
                          try clear hfz56_0
                          try clear hfz56_1
                          try clear hfz56_2
                          try clear hfz56_3
                          try clear hfz61_0
                          try clear hfz61_1
                          try clear hfz61_2
                          try clear hfz61_3
                          try clear hfz63_0
                          try clear hfz63_1
                          try clear hfz63_2
                          try clear hfz63_3
                          try clear hx128_0
                          try clear hx128_1
                          try clear hx128_2
                          try clear hx128_3
                          try clear hx129_0
                          try clear hx129_1
                          try clear hx129_2
                          try clear hx129_3
                          try clear hx133_0
                          try clear hx133_1
                          try clear hx133_2
                          try clear hx133_3
                          try clear hx135_0
                          try clear hx135_1
                          try clear hx135_2
                          try clear hx136_0
                          try clear hx136_1
                          try clear hx136_2
                          try clear hx137_0
                          try clear hx137_1
                          try clear hx137_2
                          try clear hx138_0
                          try clear hx138_1
                          try clear hx138_2
                          try clear hx139_0
                          try clear hx139_1
                          try clear hx139_2
                          try clear hx140_0
                          try clear hx140_1
                          try clear hx140_2
                          try clear p1
                          try clear p12
                          try clear p128
                          try clear p129
                          try clear p13
                          try clear p133
                          try clear p135
                          try clear p136
                          try clear p137
                          try clear p138
                          try clear p139
                          try clear p140
                          try clear p2
                          try clear p6
                          try clear q1
                          try clear q12
                          try clear q128
                          try clear q129
                          try clear q13
                          try clear q133
                          try clear q135
                          try clear q136
                          try clear q137
                          try clear q138
                          try clear q139
                          try clear q140
                          obtain ⟨kq, x8_24, x13_24, x14_24, rfl, rfl, rfl, HA, HJ24, HO_9, BK134, HB⟩ := hcut
                          cases kq with
                          | zero => exact absurd HA.out (by simp [bywashlaw16_PumpFits.j6])
                          | succ kj24 =>
                            have H := HA.out
                            clear HA
                            simp only [bywashlaw16_PumpFits.j6] at H
                            obtain ⟨ji64, hji64⟩ : ∃ j_ : Int, (mn ((rd_T26 l2 x50_3).f2) ((rd_T26 l2 x50_3).f1)) = j_ := ⟨_, rfl⟩
                            replace H : (if a1 < 1 then (if x13_24 = 0 then (if ((rd_T26 l2 x50_3).f3) = true then (if (x14_24 != (x13_24 == ((rd_T26 l2 x50_3).f2))) = true then (some false) else (bywashlaw16_PumpFits.l1 kj24 a1 x8_24 t130 (wrap64 (x10_3 - x13_24)) l2 (l2.length : Int) (wrap64 (x50_3 + 1)))) else (if (x14_24 != false) = true then (some false) else (bywashlaw16_PumpFits.l1 kj24 a1 x8_24 t130 (wrap64 (x10_3 - x13_24)) l2 (l2.length : Int) (wrap64 (x50_3 + 1))))) else (some false)) else (if x13_24 = (mx (mn (ji64) x10_3) 0) then (if ((rd_T26 l2 x50_3).f3) = true then (if (x14_24 != (x13_24 == ((rd_T26 l2 x50_3).f2))) = true then (some false) else (bywashlaw16_PumpFits.l1 kj24 a1 x8_24 t130 (wrap64 (x10_3 - x13_24)) l2 (l2.length : Int) (wrap64 (x50_3 + 1)))) else (if (x14_24 != false) = true then (some false) else (bywashlaw16_PumpFits.l1 kj24 a1 x8_24 t130 (wrap64 (x10_3 - x13_24)) l2 (l2.length : Int) (wrap64 (x50_3 + 1))))) else (some false))) = some r := by first | (rw [hji64] at H; exact H) | (simp only [hji64] at H ⊢; exact H)
                            have hji64_ : (if ((rd_T26 l2 x50_3).f1) < ((rd_T26 l2 x50_3).f2) then ((rd_T26 l2 x50_3).f1) else ((rd_T26 l2 x50_3).f2)) = ji64 := hji64
                            obtain ⟨ji65, hji65⟩ : ∃ j_ : Int, (mn (ji64) x10_3) = j_ := ⟨_, rfl⟩
                            replace H : (if a1 < 1 then (if x13_24 = 0 then (if ((rd_T26 l2 x50_3).f3) = true then (if (x14_24 != (x13_24 == ((rd_T26 l2 x50_3).f2))) = true then (some false) else (bywashlaw16_PumpFits.l1 kj24 a1 x8_24 t130 (wrap64 (x10_3 - x13_24)) l2 (l2.length : Int) (wrap64 (x50_3 + 1)))) else (if (x14_24 != false) = true then (some false) else (bywashlaw16_PumpFits.l1 kj24 a1 x8_24 t130 (wrap64 (x10_3 - x13_24)) l2 (l2.length : Int) (wrap64 (x50_3 + 1))))) else (some false)) else (if x13_24 = (mx (ji65) 0) then (if ((rd_T26 l2 x50_3).f3) = true then (if (x14_24 != (x13_24 == ((rd_T26 l2 x50_3).f2))) = true then (some false) else (bywashlaw16_PumpFits.l1 kj24 a1 x8_24 t130 (wrap64 (x10_3 - x13_24)) l2 (l2.length : Int) (wrap64 (x50_3 + 1)))) else (if (x14_24 != false) = true then (some false) else (bywashlaw16_PumpFits.l1 kj24 a1 x8_24 t130 (wrap64 (x10_3 - x13_24)) l2 (l2.length : Int) (wrap64 (x50_3 + 1))))) else (some false))) = some r := by first | (rw [hji65] at H; exact H) | (simp only [hji65] at H ⊢; exact H)
                            have hji65_ : (if x10_3 < (ji64) then x10_3 else (ji64)) = ji65 := hji65
                            obtain ⟨ji66, hji66⟩ : ∃ j_ : Int, (mx (ji65) 0) = j_ := ⟨_, rfl⟩
                            replace H : (if a1 < 1 then (if x13_24 = 0 then (if ((rd_T26 l2 x50_3).f3) = true then (if (x14_24 != (x13_24 == ((rd_T26 l2 x50_3).f2))) = true then (some false) else (bywashlaw16_PumpFits.l1 kj24 a1 x8_24 t130 (wrap64 (x10_3 - x13_24)) l2 (l2.length : Int) (wrap64 (x50_3 + 1)))) else (if (x14_24 != false) = true then (some false) else (bywashlaw16_PumpFits.l1 kj24 a1 x8_24 t130 (wrap64 (x10_3 - x13_24)) l2 (l2.length : Int) (wrap64 (x50_3 + 1))))) else (some false)) else (if x13_24 = (ji66) then (if ((rd_T26 l2 x50_3).f3) = true then (if (x14_24 != (x13_24 == ((rd_T26 l2 x50_3).f2))) = true then (some false) else (bywashlaw16_PumpFits.l1 kj24 a1 x8_24 t130 (wrap64 (x10_3 - x13_24)) l2 (l2.length : Int) (wrap64 (x50_3 + 1)))) else (if (x14_24 != false) = true then (some false) else (bywashlaw16_PumpFits.l1 kj24 a1 x8_24 t130 (wrap64 (x10_3 - x13_24)) l2 (l2.length : Int) (wrap64 (x50_3 + 1))))) else (some false))) = some r := by first | (rw [hji66] at H; exact H) | (simp only [hji66] at H ⊢; exact H)
                            have hji66_ : (if (ji65) < 0 then 0 else (ji65)) = ji66 := hji66
                            by_cases c67 : a1 < 1
                            · rw [if_pos c67] at H
                              have c67b0 : decide (a1 < 1) = true := decide_eq_true c67
                              clear c67
                              by_cases c68 : x13_24 = 0
                              · rw [if_pos c68] at H
                                have c68b0 : (x13_24 == 0) = true := beq_iff_eq.mpr c68
                                have c68b1 : (x13_24 != 0) = false := bne_eq_false_iff_eq.mpr c68
                                clear c68
                                by_cases c69 : ((rd_T26 l2 x50_3).f3) = true
                                · rw [if_pos c69] at H
                                  have c69b0 : ((rd_T26 l2 x50_3).f3) = true := c69
                                  clear c69
                                  by_cases c70 : (x14_24 != (x13_24 == ((rd_T26 l2 x50_3).f2))) = true
                                  · rw [if_pos c70] at H
                                    have c70b0 : (x14_24 != (x13_24 == ((rd_T26 l2 x50_3).f2))) = true := c70
                                    (try (have c70b1 : decide (x14_24 = (x13_24 == ((rd_T26 l2 x50_3).f2))) = false := by simpa using c70))
                                    (try (have c70b2 : (x14_24 == (x13_24 == ((rd_T26 l2 x50_3).f2))) = false := by simpa using c70))
                                    (try (have c70b3 : ¬ (x14_24 = (x13_24 == ((rd_T26 l2 x50_3).f2))) := by simpa using c70))
                                    clear c70
                                    obtain rfl := Option.some.inj H
                                    have hcz71_0 : wc.cell? ⟨gb134, 0, none⟩ = some (.int .i64 ((rd_T26 l2 x50_3).f0)) := (blk_cell BK134.out 0).trans rfl
                                    have hcz71_1 : wc.cell? ⟨gb134, 1, none⟩ = some (.int .i64 ((rd_T26 l2 x50_3).f1)) := (blk_cell BK134.out 1).trans rfl
                                    have hcz71_2 : wc.cell? ⟨gb134, 2, none⟩ = some (.int .i64 ((rd_T26 l2 x50_3).f2)) := (blk_cell BK134.out 2).trans rfl
                                    have hcz71_3 : wc.cell? ⟨gb134, 3, none⟩ = some (.bool ((rd_T26 l2 x50_3).f3)) := (blk_cell BK134.out 3).trans rfl
                                    have hfz71_0 := blk_frozen BK134.out 0
                                    have hfz71_1 := blk_frozen BK134.out 1
                                    have hfz71_2 := blk_frozen BK134.out 2
                                    have hfz71_3 := blk_frozen BK134.out 3
                                    go_wp2
                                    repeat (go_quiet (fail); try go_wp2)
                                    go_ret
                                    exact ⟨by first | rfl | (simp [errW_none, errW_some] <;> rfl) | (simp only [← hji64, ← hji65, ← hji66]; first | rfl | (simp [errW_none, errW_some] <;> rfl)) | (simp [*, errW_none, errW_some] <;> rfl), by repeat (first | (with_reducible first | exact HB.out | apply below_alloc | apply pw_below_drewN | apply below_drew1 | refine below_set ?_ GE134.out) | exact HB.out)⟩
                                  · rw [if_neg c70] at H
                                    have c70b0 : (x14_24 != (x13_24 == ((rd_T26 l2 x50_3).f2))) = false := by simpa using c70
                                    (try (have c70b1 : decide (x14_24 = (x13_24 == ((rd_T26 l2 x50_3).f2))) = true := by simpa using c70))
                                    (try (have c70b2 : (x14_24 == (x13_24 == ((rd_T26 l2 x50_3).f2))) = true := by simpa using c70))
                                    clear c70
                                    have H' := Aside0.mk H
                                    clear H
                                    have hcz72_0 : wc.cell? ⟨gb134, 0, none⟩ = some (.int .i64 ((rd_T26 l2 x50_3).f0)) := (blk_cell BK134.out 0).trans rfl
                                    have hcz72_1 : wc.cell? ⟨gb134, 1, none⟩ = some (.int .i64 ((rd_T26 l2 x50_3).f1)) := (blk_cell BK134.out 1).trans rfl
                                    have hcz72_2 : wc.cell? ⟨gb134, 2, none⟩ = some (.int .i64 ((rd_T26 l2 x50_3).f2)) := (blk_cell BK134.out 2).trans rfl
                                    have hcz72_3 : wc.cell? ⟨gb134, 3, none⟩ = some (.bool ((rd_T26 l2 x50_3).f3)) := (blk_cell BK134.out 3).trans rfl
                                    have hfz72_0 := blk_frozen BK134.out 0
                                    have hfz72_1 := blk_frozen BK134.out 1
                                    have hfz72_2 := blk_frozen BK134.out 2
                                    have hfz72_3 := blk_frozen BK134.out 3
                                    go_wp2
                                    repeat (go_quiet (fail); try go_wp2)
                                    go_roundg kj24
                                    case measure => have := HJ3.out; have := HK2.out; have := HK3.out; have := HJ24.out; omega
                                    case rel => exact ⟨(x8_24), (wrap64 (x10_3 - x13_24)), (wrap64 (x50_3 + 1)), (by first | rfl | (simp; done) | (simp [*]; done)), (by first | rfl | (simp; done) | (simp [*]; done)), (by first | rfl | (simp; done) | (simp [*]; done)), H', ⟨by have := HJ3.out; have := HK2.out; have := HK3.out; have := HJ24.out; omega⟩, ⟨by (with_reducible repeat (first | apply Kd.R_alloc | apply Kd.R_drewN | apply Kd.R_drew)); exact HO_9.out⟩, ⟨by repeat (first | (with_reducible first | exact HB.out | apply below_alloc | apply pw_below_drewN | apply below_drew1 | refine below_set ?_ GE134.out) | exact HB.out)⟩⟩
                                · rw [if_neg c69] at H
                                  have c69b0 : ((rd_T26 l2 x50_3).f3) = false := by simpa using c69
                                  clear c69
                                  by_cases c73 : (x14_24 != false) = true
                                  · rw [if_pos c73] at H
                                    have c73b0 : (x14_24 != false) = true := c73
                                    (try (have c73b1 : decide (x14_24 = false) = false := by simpa using c73))
                                    (try (have c73b2 : (x14_24 == false) = false := by simpa using c73))
                                    (try (have c73b3 : ¬ (x14_24 = false) := by simpa using c73))
                                    clear c73
                                    obtain rfl := Option.some.inj H
                                    have hcz74_0 : wc.cell? ⟨gb134, 0, none⟩ = some (.int .i64 ((rd_T26 l2 x50_3).f0)) := (blk_cell BK134.out 0).trans rfl
                                    have hcz74_1 : wc.cell? ⟨gb134, 1, none⟩ = some (.int .i64 ((rd_T26 l2 x50_3).f1)) := (blk_cell BK134.out 1).trans rfl
                                    have hcz74_2 : wc.cell? ⟨gb134, 2, none⟩ = some (.int .i64 ((rd_T26 l2 x50_3).f2)) := (blk_cell BK134.out 2).trans rfl
                                    have hcz74_3 : wc.cell? ⟨gb134, 3, none⟩ = some (.bool ((rd_T26 l2 x50_3).f3)) := (blk_cell BK134.out 3).trans rfl
                                    have hfz74_0 := blk_frozen BK134.out 0
                                    have hfz74_1 := blk_frozen BK134.out 1
                                    have hfz74_2 := blk_frozen BK134.out 2
                                    have hfz74_3 := blk_frozen BK134.out 3
                                    go_wp2
                                    repeat (go_quiet (fail); try go_wp2)
                                    go_ret
                                    exact ⟨by first | rfl | (simp [errW_none, errW_some] <;> rfl) | (simp only [← hji64, ← hji65, ← hji66]; first | rfl | (simp [errW_none, errW_some] <;> rfl)) | (simp [*, errW_none, errW_some] <;> rfl), by repeat (first | (with_reducible first | exact HB.out | apply below_alloc | apply pw_below_drewN | apply below_drew1 | refine below_set ?_ GE134.out) | exact HB.out)⟩
                                  · rw [if_neg c73] at H
                                    have c73b0 : (x14_24 != false) = false := by simpa using c73
                                    (try (have c73b1 : decide (x14_24 = false) = true := by simpa using c73))
                                    (try (have c73b2 : (x14_24 == false) = true := by simpa using c73))
                                    clear c73
                                    have H' := Aside0.mk H
                                    clear H
                                    have hcz75_0 : wc.cell? ⟨gb134, 0, none⟩ = some (.int .i64 ((rd_T26 l2 x50_3).f0)) := (blk_cell BK134.out 0).trans rfl
                                    have hcz75_1 : wc.cell? ⟨gb134, 1, none⟩ = some (.int .i64 ((rd_T26 l2 x50_3).f1)) := (blk_cell BK134.out 1).trans rfl
                                    have hcz75_2 : wc.cell? ⟨gb134, 2, none⟩ = some (.int .i64 ((rd_T26 l2 x50_3).f2)) := (blk_cell BK134.out 2).trans rfl
                                    have hcz75_3 : wc.cell? ⟨gb134, 3, none⟩ = some (.bool ((rd_T26 l2 x50_3).f3)) := (blk_cell BK134.out 3).trans rfl
                                    have hfz75_0 := blk_frozen BK134.out 0
                                    have hfz75_1 := blk_frozen BK134.out 1
                                    have hfz75_2 := blk_frozen BK134.out 2
                                    have hfz75_3 := blk_frozen BK134.out 3
                                    go_wp2
                                    repeat (go_quiet (fail); try go_wp2)
                                    go_roundg kj24
                                    case measure => have := HJ3.out; have := HK2.out; have := HK3.out; have := HJ24.out; omega
                                    case rel => exact ⟨(x8_24), (wrap64 (x10_3 - x13_24)), (wrap64 (x50_3 + 1)), (by first | rfl | (simp; done) | (simp [*]; done)), (by first | rfl | (simp; done) | (simp [*]; done)), (by first | rfl | (simp; done) | (simp [*]; done)), H', ⟨by have := HJ3.out; have := HK2.out; have := HK3.out; have := HJ24.out; omega⟩, ⟨by (with_reducible repeat (first | apply Kd.R_alloc | apply Kd.R_drewN | apply Kd.R_drew)); exact HO_9.out⟩, ⟨by repeat (first | (with_reducible first | exact HB.out | apply below_alloc | apply pw_below_drewN | apply below_drew1 | refine below_set ?_ GE134.out) | exact HB.out)⟩⟩
                              · rw [if_neg c68] at H
                                have c68b0 : (x13_24 == 0) = false := beq_eq_false_iff_ne.mpr c68
                                have c68b1 : (x13_24 != 0) = true := bne_iff_ne.mpr c68
                                obtain rfl := Option.some.inj H
                                have hcz76_0 : wc.cell? ⟨gb134, 0, none⟩ = some (.int .i64 ((rd_T26 l2 x50_3).f0)) := (blk_cell BK134.out 0).trans rfl
                                have hcz76_1 : wc.cell? ⟨gb134, 1, none⟩ = some (.int .i64 ((rd_T26 l2 x50_3).f1)) := (blk_cell BK134.out 1).trans rfl
                                have hcz76_2 : wc.cell? ⟨gb134, 2, none⟩ = some (.int .i64 ((rd_T26 l2 x50_3).f2)) := (blk_cell BK134.out 2).trans rfl
                                have hcz76_3 : wc.cell? ⟨gb134, 3, none⟩ = some (.bool ((rd_T26 l2 x50_3).f3)) := (blk_cell BK134.out 3).trans rfl
                                have hfz76_0 := blk_frozen BK134.out 0
                                have hfz76_1 := blk_frozen BK134.out 1
                                have hfz76_2 := blk_frozen BK134.out 2
                                have hfz76_3 := blk_frozen BK134.out 3
                                go_wp2
                                repeat (go_quiet (fail); try go_wp2)
                                go_ret
                                exact ⟨by first | rfl | (simp [errW_none, errW_some] <;> rfl) | (simp only [← hji64, ← hji65, ← hji66]; first | rfl | (simp [errW_none, errW_some] <;> rfl)) | (simp [*, errW_none, errW_some] <;> rfl), by repeat (first | (with_reducible first | exact HB.out | apply below_alloc | apply pw_below_drewN | apply below_drew1 | refine below_set ?_ GE134.out) | exact HB.out)⟩
                            · rw [if_neg c67] at H
                              have c67b0 : decide (a1 < 1) = false := decide_eq_false c67
                              clear c67
                              by_cases c77 : x13_24 = (ji66)
                              · rw [if_pos c77] at H
                                have c77b0 : (x13_24 == (ji66)) = true := beq_iff_eq.mpr c77
                                have c77b1 : (x13_24 != (ji66)) = false := bne_eq_false_iff_eq.mpr c77
                                clear c77
                                by_cases c78 : ((rd_T26 l2 x50_3).f3) = true
                                · rw [if_pos c78] at H
                                  have c78b0 : ((rd_T26 l2 x50_3).f3) = true := c78
                                  clear c78
                                  by_cases c79 : (x14_24 != (x13_24 == ((rd_T26 l2 x50_3).f2))) = true
                                  · rw [if_pos c79] at H
                                    have c79b0 : (x14_24 != (x13_24 == ((rd_T26 l2 x50_3).f2))) = true := c79
                                    (try (have c79b1 : decide (x14_24 = (x13_24 == ((rd_T26 l2 x50_3).f2))) = false := by simpa using c79))
                                    (try (have c79b2 : (x14_24 == (x13_24 == ((rd_T26 l2 x50_3).f2))) = false := by simpa using c79))
                                    (try (have c79b3 : ¬ (x14_24 = (x13_24 == ((rd_T26 l2 x50_3).f2))) := by simpa using c79))
                                    clear c79
                                    obtain rfl := Option.some.inj H
                                    have hcz80_0 : wc.cell? ⟨gb134, 0, none⟩ = some (.int .i64 ((rd_T26 l2 x50_3).f0)) := (blk_cell BK134.out 0).trans rfl
                                    have hcz80_1 : wc.cell? ⟨gb134, 1, none⟩ = some (.int .i64 ((rd_T26 l2 x50_3).f1)) := (blk_cell BK134.out 1).trans rfl
                                    have hcz80_2 : wc.cell? ⟨gb134, 2, none⟩ = some (.int .i64 ((rd_T26 l2 x50_3).f2)) := (blk_cell BK134.out 2).trans rfl
                                    have hcz80_3 : wc.cell? ⟨gb134, 3, none⟩ = some (.bool ((rd_T26 l2 x50_3).f3)) := (blk_cell BK134.out 3).trans rfl
                                    have hfz80_0 := blk_frozen BK134.out 0
                                    have hfz80_1 := blk_frozen BK134.out 1
                                    have hfz80_2 := blk_frozen BK134.out 2
                                    have hfz80_3 := blk_frozen BK134.out 3
                                    go_wp2
                                    repeat (go_quiet (fail); try go_wp2)
                                    go_ret
                                    exact ⟨by first | rfl | (simp [errW_none, errW_some] <;> rfl) | (simp only [← hji64, ← hji65, ← hji66]; first | rfl | (simp [errW_none, errW_some] <;> rfl)) | (simp [*, errW_none, errW_some] <;> rfl), by repeat (first | (with_reducible first | exact HB.out | apply below_alloc | apply pw_below_drewN | apply below_drew1 | refine below_set ?_ GE134.out) | exact HB.out)⟩
                                  · rw [if_neg c79] at H
                                    have c79b0 : (x14_24 != (x13_24 == ((rd_T26 l2 x50_3).f2))) = false := by simpa using c79
                                    (try (have c79b1 : decide (x14_24 = (x13_24 == ((rd_T26 l2 x50_3).f2))) = true := by simpa using c79))
                                    (try (have c79b2 : (x14_24 == (x13_24 == ((rd_T26 l2 x50_3).f2))) = true := by simpa using c79))
                                    clear c79
                                    have H' := Aside0.mk H
                                    clear H
                                    have hcz81_0 : wc.cell? ⟨gb134, 0, none⟩ = some (.int .i64 ((rd_T26 l2 x50_3).f0)) := (blk_cell BK134.out 0).trans rfl
                                    have hcz81_1 : wc.cell? ⟨gb134, 1, none⟩ = some (.int .i64 ((rd_T26 l2 x50_3).f1)) := (blk_cell BK134.out 1).trans rfl
                                    have hcz81_2 : wc.cell? ⟨gb134, 2, none⟩ = some (.int .i64 ((rd_T26 l2 x50_3).f2)) := (blk_cell BK134.out 2).trans rfl
                                    have hcz81_3 : wc.cell? ⟨gb134, 3, none⟩ = some (.bool ((rd_T26 l2 x50_3).f3)) := (blk_cell BK134.out 3).trans rfl
                                    have hfz81_0 := blk_frozen BK134.out 0
                                    have hfz81_1 := blk_frozen BK134.out 1
                                    have hfz81_2 := blk_frozen BK134.out 2
                                    have hfz81_3 := blk_frozen BK134.out 3
                                    go_wp2
                                    repeat (go_quiet (fail); try go_wp2)
                                    go_roundg kj24
                                    case measure => have := HJ3.out; have := HK2.out; have := HK3.out; have := HJ24.out; omega
                                    case rel => exact ⟨(x8_24), (wrap64 (x10_3 - x13_24)), (wrap64 (x50_3 + 1)), (by first | rfl | (simp; done) | (simp [*]; done)), (by first | rfl | (simp; done) | (simp [*]; done)), (by first | rfl | (simp; done) | (simp [*]; done)), H', ⟨by have := HJ3.out; have := HK2.out; have := HK3.out; have := HJ24.out; omega⟩, ⟨by (with_reducible repeat (first | apply Kd.R_alloc | apply Kd.R_drewN | apply Kd.R_drew)); exact HO_9.out⟩, ⟨by repeat (first | (with_reducible first | exact HB.out | apply below_alloc | apply pw_below_drewN | apply below_drew1 | refine below_set ?_ GE134.out) | exact HB.out)⟩⟩
                                · rw [if_neg c78] at H
                                  have c78b0 : ((rd_T26 l2 x50_3).f3) = false := by simpa using c78
                                  clear c78
                                  by_cases c82 : (x14_24 != false) = true
                                  · rw [if_pos c82] at H
                                    have c82b0 : (x14_24 != false) = true := c82
                                    (try (have c82b1 : decide (x14_24 = false) = false := by simpa using c82))
                                    (try (have c82b2 : (x14_24 == false) = false := by simpa using c82))
                                    (try (have c82b3 : ¬ (x14_24 = false) := by simpa using c82))
                                    clear c82
                                    obtain rfl := Option.some.inj H
                                    have hcz83_0 : wc.cell? ⟨gb134, 0, none⟩ = some (.int .i64 ((rd_T26 l2 x50_3).f0)) := (blk_cell BK134.out 0).trans rfl
                                    have hcz83_1 : wc.cell? ⟨gb134, 1, none⟩ = some (.int .i64 ((rd_T26 l2 x50_3).f1)) := (blk_cell BK134.out 1).trans rfl
                                    have hcz83_2 : wc.cell? ⟨gb134, 2, none⟩ = some (.int .i64 ((rd_T26 l2 x50_3).f2)) := (blk_cell BK134.out 2).trans rfl
                                    have hcz83_3 : wc.cell? ⟨gb134, 3, none⟩ = some (.bool ((rd_T26 l2 x50_3).f3)) := (blk_cell BK134.out 3).trans rfl
                                    have hfz83_0 := blk_frozen BK134.out 0
                                    have hfz83_1 := blk_frozen BK134.out 1
                                    have hfz83_2 := blk_frozen BK134.out 2
                                    have hfz83_3 := blk_frozen BK134.out 3
                                    go_wp2
                                    repeat (go_quiet (fail); try go_wp2)
                                    go_ret
                                    exact ⟨by first | rfl | (simp [errW_none, errW_some] <;> rfl) | (simp only [← hji64, ← hji65, ← hji66]; first | rfl | (simp [errW_none, errW_some] <;> rfl)) | (simp [*, errW_none, errW_some] <;> rfl), by repeat (first | (with_reducible first | exact HB.out | apply below_alloc | apply pw_below_drewN | apply below_drew1 | refine below_set ?_ GE134.out) | exact HB.out)⟩
                                  · rw [if_neg c82] at H
                                    have c82b0 : (x14_24 != false) = false := by simpa using c82
                                    (try (have c82b1 : decide (x14_24 = false) = true := by simpa using c82))
                                    (try (have c82b2 : (x14_24 == false) = true := by simpa using c82))
                                    clear c82
                                    have H' := Aside0.mk H
                                    clear H
                                    have hcz84_0 : wc.cell? ⟨gb134, 0, none⟩ = some (.int .i64 ((rd_T26 l2 x50_3).f0)) := (blk_cell BK134.out 0).trans rfl
                                    have hcz84_1 : wc.cell? ⟨gb134, 1, none⟩ = some (.int .i64 ((rd_T26 l2 x50_3).f1)) := (blk_cell BK134.out 1).trans rfl
                                    have hcz84_2 : wc.cell? ⟨gb134, 2, none⟩ = some (.int .i64 ((rd_T26 l2 x50_3).f2)) := (blk_cell BK134.out 2).trans rfl
                                    have hcz84_3 : wc.cell? ⟨gb134, 3, none⟩ = some (.bool ((rd_T26 l2 x50_3).f3)) := (blk_cell BK134.out 3).trans rfl
                                    have hfz84_0 := blk_frozen BK134.out 0
                                    have hfz84_1 := blk_frozen BK134.out 1
                                    have hfz84_2 := blk_frozen BK134.out 2
                                    have hfz84_3 := blk_frozen BK134.out 3
                                    go_wp2
                                    repeat (go_quiet (fail); try go_wp2)
                                    go_roundg kj24
                                    case measure => have := HJ3.out; have := HK2.out; have := HK3.out; have := HJ24.out; omega
                                    case rel => exact ⟨(x8_24), (wrap64 (x10_3 - x13_24)), (wrap64 (x50_3 + 1)), (by first | rfl | (simp; done) | (simp [*]; done)), (by first | rfl | (simp; done) | (simp [*]; done)), (by first | rfl | (simp; done) | (simp [*]; done)), H', ⟨by have := HJ3.out; have := HK2.out; have := HK3.out; have := HJ24.out; omega⟩, ⟨by (with_reducible repeat (first | apply Kd.R_alloc | apply Kd.R_drewN | apply Kd.R_drew)); exact HO_9.out⟩, ⟨by repeat (first | (with_reducible first | exact HB.out | apply below_alloc | apply pw_below_drewN | apply below_drew1 | refine below_set ?_ GE134.out) | exact HB.out)⟩⟩
                              · rw [if_neg c77] at H
                                have c77b0 : (x13_24 == (ji66)) = false := beq_eq_false_iff_ne.mpr c77
                                have c77b1 : (x13_24 != (ji66)) = true := bne_iff_ne.mpr c77
                                obtain rfl := Option.some.inj H
                                have hcz85_0 : wc.cell? ⟨gb134, 0, none⟩ = some (.int .i64 ((rd_T26 l2 x50_3).f0)) := (blk_cell BK134.out 0).trans rfl
                                have hcz85_1 : wc.cell? ⟨gb134, 1, none⟩ = some (.int .i64 ((rd_T26 l2 x50_3).f1)) := (blk_cell BK134.out 1).trans rfl
                                have hcz85_2 : wc.cell? ⟨gb134, 2, none⟩ = some (.int .i64 ((rd_T26 l2 x50_3).f2)) := (blk_cell BK134.out 2).trans rfl
                                have hcz85_3 : wc.cell? ⟨gb134, 3, none⟩ = some (.bool ((rd_T26 l2 x50_3).f3)) := (blk_cell BK134.out 3).trans rfl
                                have hfz85_0 := blk_frozen BK134.out 0
                                have hfz85_1 := blk_frozen BK134.out 1
                                have hfz85_2 := blk_frozen BK134.out 2
                                have hfz85_3 := blk_frozen BK134.out 3
                                go_wp2
                                repeat (go_quiet (fail); try go_wp2)
                                go_ret
                                exact ⟨by first | rfl | (simp [errW_none, errW_some] <;> rfl) | (simp only [← hji64, ← hji65, ← hji66]; first | rfl | (simp [errW_none, errW_some] <;> rfl)) | (simp [*, errW_none, errW_some] <;> rfl), by repeat (first | (with_reducible first | exact HB.out | apply below_alloc | apply pw_below_drewN | apply below_drew1 | refine below_set ?_ GE134.out) | exact HB.out)⟩
                      · rw [if_neg c24] at H
                        exact absurd H (by simp)
                    · rw [if_neg c23] at H
                      exact absurd H (by simp)
                  · rw [if_neg c22] at H
                    have c22b0 : decide (x50_3 < (l2.length : Int)) = false := decide_eq_false c22
                    clear c22
                    obtain rfl := Option.some.inj H
                    obtain ⟨Ao86, co86, eo86⟩ := Kd.R_slice HO_9.out
                    subst eo86
                    go_wp2
                    repeat (go_quiet (fail); try go_wp2)
                    go_ret
                    exact ⟨by first | rfl | (simp [errW_none, errW_some] <;> rfl) | (simp [*, errW_none, errW_some] <;> rfl), by repeat (first | (with_reducible first | exact HB.out | apply below_alloc | apply pw_below_drewN | apply below_drew1) | exact HB.out)⟩

end Go.Proofs.Ytjjdhaphgnldaaa.PPumpFits
