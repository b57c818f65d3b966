-- Written by a program of this session (the kit's printer, turned): the functions that the law reaches.
import Derived.Test.YtndchendimbfnaaPPumpTellsx0
import Derived.Test.YtndchendimbfnaaPPumpTellsx1
import Derived.Test.YtndchendimbfnaaPPumpTellsx2
import Derived.Test.YtndchendimbfnaaPPumpTellsx3
import Derived.Test.YtndchendimbfnaaPPumpTellsx4
namespace Go.Proofs.Ytndchendimbfnaa.PPumpTells
open Go.RowKit Go.Proofs.YtndchendimbfnaaW.PrintWords Go.Proofs.YtndchendimbfnaaW.PrintLast Go.Proofs.YtndchendimbfnaaW.PrintMore
attribute [local go_sem] max2_int min2_int max_two min_two max_three min_three max_four min_four   -- for this text's walks alone
set_option linter.unusedVariables false
set_option linter.unusedSimpArgs false

attribute [local go_sem high] eqA26 eqA34
theorem cut_up {P : Program} (t e : TypeId) (kh : IntKind) {i : TypeInfo} (ht : P.underlying t = some (.slice e)) (hi : P.info? e = some i) (A : Option Addr) (n c : Nat) (j : Int) (h0 : 0 ≤ j) (hm : j ≤ c) :
    ∀ W : World, (Instr.slice t (.slice A n c) none (some (.int kh j)) none).run P W = .ok (.slice A j.toNat c) W := by
  intro W
  have hel : P.elem t = e := by simp [Program.elem, ht]
  have hu : P.underlying t = some (.slice (P.elem t)) := by rw [hel]; exact ht
  have ha : (A.map fun x => x.add 0) = A := by cases A <;> simp [Addr.add]
  rw [run_slice_h W t A n c hu kh j h0 (by omega), hel]
  simp [sizeOf, typeInfo, hi, sliced, Result.andThen, ha]

/-! ### bywashlaw16_PumpTells: function 3 -/
mutual
def bywashlaw16_PumpTells.j0 : Nat → Int → Int → List (S26) → Bool → Option (Bool)
  | 0, _, _, _, _ => none
  | k + 1, x0, x1, x2, x26 => if x26 = true then ((bywashlaw16_alive.f k).bind fun t138 => (some t138)) else (if ([] : List (S26)).length + x2.length < 4398046511104 then ((some (([] : List (S26)) ++ x2 : List (S26))).bind fun y139 => (if y139.length < 4398046511104 then ((some (y139 ++ [(⟨(-77), 0, 0, false⟩ : S26)] : List (S26))).bind fun y142 => (if 0 ≤ (x2.length : Int) then (if (x2.length : Int) ≤ (y142.length : Int) then (bywashlaw16_PumpTells.l0 k x0 x1 x2 (y142.take ((x2.length : Int) : Int).toNat) ([] : List (S28)) x2 (x2.length : Int) 0 y142) else (none)) else (none))) else (none))) else (none))
def bywashlaw16_PumpTells.l0 : Nat → Int → Int → List (S26) → List (S26) → List (S28) → List (S26) → Int → Int → List (S26) → Option (Bool)
  | 0, _, _, _, _, _, _, _, _, _ => none
  | k + 1, x0, x1, x2, x7, x8, x36, x37, x38, x935 => if x38 < x37 then (if 0 ≤ x38 then (if x38 < (x36.length : Int) then (if x8.length < 4398046511104 then (bywashlaw16_PumpTells.l0 k x0 x1 x2 x7 (x8 ++ [(⟨(rd_T26 x36 x38).f0, (rd_T26 x36 x38).f1, (rd_T26 x36 x38).f2, (rd_T26 x36 x38).f3⟩ : S28)]) x36 x37 (wrap64 (x38 + 1)) x935) else (none)) else (none)) else (none)) else ((bywashref1_Plan.f k x0 x1 x8).bind fun t155 => ((pump_Plan.f k x0 x1 x7).bind fun t158 => ((pump_Plan.f k x0 x1 x7).bind fun t161 => (if (t158.length : Int) = (t155.length : Int) then (bywashlaw16_PumpTells.j2 k x2 x7 t155 t158 t161 0 ((t161.length : Int) != (t155.length : Int)) x935) else (bywashlaw16_PumpTells.j2 k x2 x7 t155 t158 t161 0 true x935)))))
def bywashlaw16_PumpTells.j2 : Nat → List (S26) → List (S26) → List (S35) → List (S34) → List (S34) → Int → Bool → List (S26) → Option (Bool)
  | 0, _, _, _, _, _, _, _, _ => none
  | k + 1, x2, x7, x11, x12, x13, x14, x78, x935 => if x78 = true then (some false) else (bywashlaw16_PumpTells.l1 k x2 x7 x11 x12 x13 x14 (x12.length : Int) 0 x935)
def bywashlaw16_PumpTells.l1 : Nat → List (S26) → List (S26) → List (S35) → List (S34) → List (S34) → Int → Int → Int → List (S26) → Option (Bool)
  | 0, _, _, _, _, _, _, _, _, _ => none
  | k + 1, x2, x7, x11, x12, x13, x14, x80, x81, x935 => if x81 < x80 then (if 0 ≤ x81 then (if x81 < (x12.length : Int) then (if x81 < (x11.length : Int) then (if (!(((rd_T34 x12 x81).f0) == ((rd_T35 x11 x81).f0)) || (!(((rd_T34 x12 x81).f1) == ((rd_T35 x11 x81).f1)) || (!(((rd_T34 x12 x81).f2) == ((rd_T35 x11 x81).f2))))) = true then (bywashlaw16_PumpTells.j4 k x2 x7 x11 x12 x13 x14 x81 x80 x81 true x935) else (if x81 < (x13.length : Int) then (bywashlaw16_PumpTells.j4 k x2 x7 x11 x12 x13 x14 x81 x80 x81 (!(((rd_T34 x13 x81).f0) == ((rd_T34 x12 x81).f0)) || (!(((rd_T34 x13 x81).f1) == ((rd_T34 x12 x81).f1)) || (!(((rd_T34 x13 x81).f2) == ((rd_T34 x12 x81).f2))))) x935) else (none))) else (none)) else (none)) else (none)) else ((pump_Sum.f k x12).bind fun t171 => (if t171 = x14 then (bywashlaw16_PumpTells.l2 k x2 x7 x11 x12 x13 (x12.length : Int) 0 x935) else (some false)))
def bywashlaw16_PumpTells.j4 : Nat → List (S26) → List (S26) → List (S35) → List (S34) → List (S34) → Int → Int → Int → Int → Bool → List (S26) → Option (Bool)
  | 0, _, _, _, _, _, _, _, _, _, _, _ => none
  | k + 1, x2, x7, x11, x12, x13, x14, x15, x80, x81, x115, x935 => if x115 = true then (some false) else (if 0 ≤ x15 then (if x15 < (x12.length : Int) then (bywashlaw16_PumpTells.l1 k x2 x7 x11 x12 x13 (wrap64 (x14 + ((rd_T34 x12 x15).f1))) x80 (wrap64 (x81 + 1)) x935) else (none)) else (none))
def bywashlaw16_PumpTells.l2 : Nat → List (S26) → List (S26) → List (S35) → List (S34) → List (S34) → Int → Int → List (S26) → Option (Bool)
  | 0, _, _, _, _, _, _, _, _ => none
  | k + 1, x2, x7, x11, x12, x13, x129, x130, x935 => if x130 < x129 then (if 0 ≤ x130 then (if x130 < (x12.length : Int) then (bywashlaw16_PumpTells.l2 k x2 x7 x11 (x12.set (x130 : Int).toNat (⟨(rd_T34 x12 x130).f0, (-5), (rd_T34 x12 x130).f2⟩ : S34)) x13 x129 (wrap64 (x130 + 1)) x935) else (none)) else (none)) else (if x12.length < 5864062014805 then (bywashlaw16_PumpTells.l3 k x2 x7 x11 (x12 ++ [(⟨(-1), 0, false⟩ : S34)]) x13 (x13.length : Int) 0 x935) else (none))
def bywashlaw16_PumpTells.l3 : Nat → List (S26) → List (S26) → List (S35) → List (S34) → List (S34) → Int → Int → List (S26) → Option (Bool)
  | 0, _, _, _, _, _, _, _, _ => none
  | k + 1, x2, x7, x11, x12, x13, x143, x144, x935 => if x144 < x143 then (if 0 ≤ x144 then (if x144 < (x13.length : Int) then (if x144 < (x11.length : Int) then (if ((rd_T34 x13 x144).f1) = ((rd_T35 x11 x144).f1) then (bywashlaw16_PumpTells.l3 k x2 x7 x11 x12 x13 x143 (wrap64 (x144 + 1)) x935) else (some false)) else (none)) else (none)) else (none)) else (bywashlaw16_PumpTells.l4 k x2 x7 x11 x12 (x7.length : Int) 0 x935)
def bywashlaw16_PumpTells.l4 : Nat → List (S26) → List (S26) → List (S35) → List (S34) → Int → Int → List (S26) → Option (Bool)
  | 0, _, _, _, _, _, _, _ => none
  | k + 1, x2, x7, x11, x12, x160, x161, x935 => if x161 < x160 then (if 0 ≤ x161 then (if x161 < (x7.length : Int) then (if x161 < (x2.length : Int) then (if (!(((rd_T26 x7 x161).f0) == ((rd_T26 x2 x161).f0)) || (!(((rd_T26 x7 x161).f1) == ((rd_T26 x2 x161).f1)) || (!(((rd_T26 x7 x161).f2) == ((rd_T26 x2 x161).f2)) || (!(((rd_T26 x7 x161).f3) == ((rd_T26 x2 x161).f3)))))) = true then (some false) else (bywashlaw16_PumpTells.l4 k x2 x7 x11 x12 x160 (wrap64 (x161 + 1)) x935)) else (none)) else (none)) else (none)) else (if 0 ≤ (wrap64 ((x7.length : Int) + 1)) then (if (wrap64 ((x7.length : Int) + 1)) ≤ (x935.length : Int) then ((some (x935.take ((wrap64 ((x7.length : Int) + 1)) : Int).toNat : List (S26))).bind fun y178 => (if 0 ≤ (x7.length : Int) then (if (x7.length : Int) < (y178.length : Int) then (if ((rd_T26 y178 (x7.length : Int)).f0) = (-77) then (some ((x12.length : Int) == (wrap64 ((x11.length : Int) + 1)))) else (some false)) else (none)) else (none))) else (none)) else (none))
end
def bywashlaw16_PumpTells.f (k : Nat) (a0 : Int) (a1 : Int) (l2 : List (S26)) : Option (Bool) := (bywashlaw16_Light.f k a1 l2).bind fun t136 => (if t136 = true then ((bywashlaw16_alive.f k).bind fun t137 => (bywashlaw16_PumpTells.j0 k a0 a1 l2 (!t137))) else (bywashlaw16_PumpTells.j0 k a0 a1 l2 true))
theorem bywashlaw16_PumpTells.mono_l : ∀ k, (∀ y0 y1 y2 y3, LeO (bywashlaw16_PumpTells.j0 k y0 y1 y2 y3) (bywashlaw16_PumpTells.j0 (k + 1) y0 y1 y2 y3)) ∧ (∀ y0 y1 y2 y3 y4 y5 y6 y7 y8, LeO (bywashlaw16_PumpTells.l0 k y0 y1 y2 y3 y4 y5 y6 y7 y8) (bywashlaw16_PumpTells.l0 (k + 1) y0 y1 y2 y3 y4 y5 y6 y7 y8)) ∧ (∀ y0 y1 y2 y3 y4 y5 y6 y7, LeO (bywashlaw16_PumpTells.j2 k y0 y1 y2 y3 y4 y5 y6 y7) (bywashlaw16_PumpTells.j2 (k + 1) y0 y1 y2 y3 y4 y5 y6 y7)) ∧ (∀ y0 y1 y2 y3 y4 y5 y6 y7 y8, LeO (bywashlaw16_PumpTells.l1 k y0 y1 y2 y3 y4 y5 y6 y7 y8) (bywashlaw16_PumpTells.l1 (k + 1) y0 y1 y2 y3 y4 y5 y6 y7 y8)) ∧ (∀ y0 y1 y2 y3 y4 y5 y6 y7 y8 y9 y10, LeO (bywashlaw16_PumpTells.j4 k y0 y1 y2 y3 y4 y5 y6 y7 y8 y9 y10) (bywashlaw16_PumpTells.j4 (k + 1) y0 y1 y2 y3 y4 y5 y6 y7 y8 y9 y10)) ∧ (∀ y0 y1 y2 y3 y4 y5 y6 y7, LeO (bywashlaw16_PumpTells.l2 k y0 y1 y2 y3 y4 y5 y6 y7) (bywashlaw16_PumpTells.l2 (k + 1) y0 y1 y2 y3 y4 y5 y6 y7)) ∧ (∀ y0 y1 y2 y3 y4 y5 y6 y7, LeO (bywashlaw16_PumpTells.l3 k y0 y1 y2 y3 y4 y5 y6 y7) (bywashlaw16_PumpTells.l3 (k + 1) y0 y1 y2 y3 y4 y5 y6 y7)) ∧ (∀ y0 y1 y2 y3 y4 y5 y6, LeO (bywashlaw16_PumpTells.l4 k y0 y1 y2 y3 y4 y5 y6) (bywashlaw16_PumpTells.l4 (k + 1) y0 y1 y2 y3 y4 y5 y6))
  | 0 => ⟨fun _ _ _ _ r h => by simp [bywashlaw16_PumpTells.j0] at h, fun _ _ _ _ _ _ _ _ _ r h => by simp [bywashlaw16_PumpTells.l0] at h, fun _ _ _ _ _ _ _ _ r h => by simp [bywashlaw16_PumpTells.j2] at h, fun _ _ _ _ _ _ _ _ _ r h => by simp [bywashlaw16_PumpTells.l1] at h, fun _ _ _ _ _ _ _ _ _ _ _ r h => by simp [bywashlaw16_PumpTells.j4] at h, fun _ _ _ _ _ _ _ _ r h => by simp [bywashlaw16_PumpTells.l2] at h, fun _ _ _ _ _ _ _ _ r h => by simp [bywashlaw16_PumpTells.l3] at h, fun _ _ _ _ _ _ _ r h => by simp [bywashlaw16_PumpTells.l4] at h⟩
  | k + 1 => by
    obtain ⟨ih0, ih1, ih2, ih3, ih4, ih5, ih6, ih7⟩ := bywashlaw16_PumpTells.mono_l k
    refine ⟨?_, ?_, ?_, ?_, ?_, ?_, ?_, ?_⟩
    · intro y0 y1 y2 y3
      unfold bywashlaw16_PumpTells.j0
      repeat' first
      | (with_reducible exact ih0 _ _ _ _)
      | (with_reducible exact ih1 _ _ _ _ _ _ _ _ _)
      | (with_reducible exact ih2 _ _ _ _ _ _ _ _)
      | (with_reducible exact ih3 _ _ _ _ _ _ _ _ _)
      | (with_reducible exact ih4 _ _ _ _ _ _ _ _ _ _ _)
      | (with_reducible exact ih5 _ _ _ _ _ _ _ _)
      | (with_reducible exact ih6 _ _ _ _ _ _ _ _)
      | (with_reducible exact ih7 _ _ _ _ _ _ _)
      | (with_reducible exact bywashlaw16_Light.mono _ _ _)
      | (with_reducible exact bywashlaw16_alive.mono _)
      | (with_reducible exact bywashref1_Plan.mono _ _ _ _)
      | (with_reducible exact pump_Plan.mono _ _ _ _)
      | (with_reducible exact pump_Sum.mono _ _)
      | (with_reducible exact LeO.refl _)
      | (with_reducible exact LeO.none _)
      | (with_reducible refine LeO.ite ?_ ?_)
      | (with_reducible refine LeO.bind ?_ (fun _ => ?_))
      | exact ih0 _ _ _ _
      | exact ih1 _ _ _ _ _ _ _ _ _
      | exact ih2 _ _ _ _ _ _ _ _
      | exact ih3 _ _ _ _ _ _ _ _ _
      | exact ih4 _ _ _ _ _ _ _ _ _ _ _
      | exact ih5 _ _ _ _ _ _ _ _
      | exact ih6 _ _ _ _ _ _ _ _
      | exact ih7 _ _ _ _ _ _ _
      | exact bywashlaw16_Light.mono _ _ _
      | exact bywashlaw16_alive.mono _
      | exact bywashref1_Plan.mono _ _ _ _
      | exact pump_Plan.mono _ _ _ _
      | exact pump_Sum.mono _ _
      | exact LeO.none _
      | refine LeO.ite ?_ ?_
      | refine LeO.bind ?_ (fun _ => ?_)
    · intro y0 y1 y2 y3 y4 y5 y6 y7 y8
      unfold bywashlaw16_PumpTells.l0
      repeat' first
      | (with_reducible exact ih0 _ _ _ _)
      | (with_reducible exact ih1 _ _ _ _ _ _ _ _ _)
      | (with_reducible exact ih2 _ _ _ _ _ _ _ _)
      | (with_reducible exact ih3 _ _ _ _ _ _ _ _ _)
      | (with_reducible exact ih4 _ _ _ _ _ _ _ _ _ _ _)
      | (with_reducible exact ih5 _ _ _ _ _ _ _ _)
      | (with_reducible exact ih6 _ _ _ _ _ _ _ _)
      | (with_reducible exact ih7 _ _ _ _ _ _ _)
      | (with_reducible exact bywashlaw16_Light.mono _ _ _)
      | (with_reducible exact bywashlaw16_alive.mono _)
      | (with_reducible exact bywashref1_Plan.mono _ _ _ _)
      | (with_reducible exact pump_Plan.mono _ _ _ _)
      | (with_reducible exact pump_Sum.mono _ _)
      | (with_reducible exact LeO.refl _)
      | (with_reducible exact LeO.none _)
      | (with_reducible refine LeO.ite ?_ ?_)
      | (with_reducible refine LeO.bind ?_ (fun _ => ?_))
      | exact ih0 _ _ _ _
      | exact ih1 _ _ _ _ _ _ _ _ _
      | exact ih2 _ _ _ _ _ _ _ _
      | exact ih3 _ _ _ _ _ _ _ _ _
      | exact ih4 _ _ _ _ _ _ _ _ _ _ _
      | exact ih5 _ _ _ _ _ _ _ _
      | exact ih6 _ _ _ _ _ _ _ _
      | exact ih7 _ _ _ _ _ _ _
      | exact bywashlaw16_Light.mono _ _ _
      | exact bywashlaw16_alive.mono _
      | exact bywashref1_Plan.mono _ _ _ _
      | exact pump_Plan.mono _ _ _ _
      | exact pump_Sum.mono _ _
      | exact LeO.none _
      | refine LeO.ite ?_ ?_
      | refine LeO.bind ?_ (fun _ => ?_)
    · intro y0 y1 y2 y3 y4 y5 y6 y7
      unfold bywashlaw16_PumpTells.j2
      repeat' first
      | (with_reducible exact ih0 _ _ _ _)
      | (with_reducible exact ih1 _ _ _ _ _ _ _ _ _)
      | (with_reducible exact ih2 _ _ _ _ _ _ _ _)
      | (with_reducible exact ih3 _ _ _ _ _ _ _ _ _)
      | (with_reducible exact ih4 _ _ _ _ _ _ _ _ _ _ _)
      | (with_reducible exact ih5 _ _ _ _ _ _ _ _)
      | (with_reducible exact ih6 _ _ _ _ _ _ _ _)
      | (with_reducible exact ih7 _ _ _ _ _ _ _)
      | (with_reducible exact bywashlaw16_Light.mono _ _ _)
      | (with_reducible exact bywashlaw16_alive.mono _)
      | (with_reducible exact bywashref1_Plan.mono _ _ _ _)
      | (with_reducible exact pump_Plan.mono _ _ _ _)
      | (with_reducible exact pump_Sum.mono _ _)
      | (with_reducible exact LeO.refl _)
      | (with_reducible exact LeO.none _)
      | (with_reducible refine LeO.ite ?_ ?_)
      | (with_reducible refine LeO.bind ?_ (fun _ => ?_))
      | exact ih0 _ _ _ _
      | exact ih1 _ _ _ _ _ _ _ _ _
      | exact ih2 _ _ _ _ _ _ _ _
      | exact ih3 _ _ _ _ _ _ _ _ _
      | exact ih4 _ _ _ _ _ _ _ _ _ _ _
      | exact ih5 _ _ _ _ _ _ _ _
      | exact ih6 _ _ _ _ _ _ _ _
      | exact ih7 _ _ _ _ _ _ _
      | exact bywashlaw16_Light.mono _ _ _
      | exact bywashlaw16_alive.mono _
      | exact bywashref1_Plan.mono _ _ _ _
      | exact pump_Plan.mono _ _ _ _
      | exact pump_Sum.mono _ _
      | exact LeO.none _
      | refine LeO.ite ?_ ?_
      | refine LeO.bind ?_ (fun _ => ?_)
    · intro y0 y1 y2 y3 y4 y5 y6 y7 y8
      unfold bywashlaw16_PumpTells.l1
      repeat' first
      | (with_reducible exact ih0 _ _ _ _)
      | (with_reducible exact ih1 _ _ _ _ _ _ _ _ _)
      | (with_reducible exact ih2 _ _ _ _ _ _ _ _)
      | (with_reducible exact ih3 _ _ _ _ _ _ _ _ _)
      | (with_reducible exact ih4 _ _ _ _ _ _ _ _ _ _ _)
      | (with_reducible exact ih5 _ _ _ _ _ _ _ _)
      | (with_reducible exact ih6 _ _ _ _ _ _ _ _)
      | (with_reducible exact ih7 _ _ _ _ _ _ _)
      | (with_reducible exact bywashlaw16_Light.mono _ _ _)
      | (with_reducible exact bywashlaw16_alive.mono _)
      | (with_reducible exact bywashref1_Plan.mono _ _ _ _)
      | (with_reducible exact pump_Plan.mono _ _ _ _)
      | (with_reducible exact pump_Sum.mono _ _)
      | (with_reducible exact LeO.refl _)
      | (with_reducible exact LeO.none _)
      | (with_reducible refine LeO.ite ?_ ?_)
      | (with_reducible refine LeO.bind ?_ (fun _ => ?_))
      | exact ih0 _ _ _ _
      | exact ih1 _ _ _ _ _ _ _ _ _
      | exact ih2 _ _ _ _ _ _ _ _
      | exact ih3 _ _ _ _ _ _ _ _ _
      | exact ih4 _ _ _ _ _ _ _ _ _ _ _
      | exact ih5 _ _ _ _ _ _ _ _
      | exact ih6 _ _ _ _ _ _ _ _
      | exact ih7 _ _ _ _ _ _ _
      | exact bywashlaw16_Light.mono _ _ _
      | exact bywashlaw16_alive.mono _
      | exact bywashref1_Plan.mono _ _ _ _
      | exact pump_Plan.mono _ _ _ _
      | exact pump_Sum.mono _ _
      | exact LeO.none _
      | refine LeO.ite ?_ ?_
      | refine LeO.bind ?_ (fun _ => ?_)
    · intro y0 y1 y2 y3 y4 y5 y6 y7 y8 y9 y10
      unfold bywashlaw16_PumpTells.j4
      repeat' first
      | (with_reducible exact ih0 _ _ _ _)
      | (with_reducible exact ih1 _ _ _ _ _ _ _ _ _)
      | (with_reducible exact ih2 _ _ _ _ _ _ _ _)
      | (with_reducible exact ih3 _ _ _ _ _ _ _ _ _)
      | (with_reducible exact ih4 _ _ _ _ _ _ _ _ _ _ _)
      | (with_reducible exact ih5 _ _ _ _ _ _ _ _)
      | (with_reducible exact ih6 _ _ _ _ _ _ _ _)
      | (with_reducible exact ih7 _ _ _ _ _ _ _)
      | (with_reducible exact bywashlaw16_Light.mono _ _ _)
      | (with_reducible exact bywashlaw16_alive.mono _)
      | (with_reducible exact bywashref1_Plan.mono _ _ _ _)
      | (with_reducible exact pump_Plan.mono _ _ _ _)
      | (with_reducible exact pump_Sum.mono _ _)
      | (with_reducible exact LeO.refl _)
      | (with_reducible exact LeO.none _)
      | (with_reducible refine LeO.ite ?_ ?_)
      | (with_reducible refine LeO.bind ?_ (fun _ => ?_))
      | exact ih0 _ _ _ _
      | exact ih1 _ _ _ _ _ _ _ _ _
      | exact ih2 _ _ _ _ _ _ _ _
      | exact ih3 _ _ _ _ _ _ _ _ _
      | exact ih4 _ _ _ _ _ _ _ _ _ _ _
      | exact ih5 _ _ _ _ _ _ _ _
      | exact ih6 _ _ _ _ _ _ _ _
      | exact ih7 _ _ _ _ _ _ _
      | exact bywashlaw16_Light.mono _ _ _
      | exact bywashlaw16_alive.mono _
      | exact bywashref1_Plan.mono _ _ _ _
      | exact pump_Plan.mono _ _ _ _
      | exact pump_Sum.mono _ _
      | exact LeO.none _
      | refine LeO.ite ?_ ?_
      | refine LeO.bind ?_ (fun _ => ?_)
    · intro y0 y1 y2 y3 y4 y5 y6 y7
      unfold bywashlaw16_PumpTells.l2
      repeat' first
      | (with_reducible exact ih0 _ _ _ _)
      | (with_reducible exact ih1 _ _ _ _ _ _ _ _ _)
      | (with_reducible exact ih2 _ _ _ _ _ _ _ _)
      | (with_reducible exact ih3 _ _ _ _ _ _ _ _ _)
      | (with_reducible exact ih4 _ _ _ _ _ _ _ _ _ _ _)
      | (with_reducible exact ih5 _ _ _ _ _ _ _ _)
      | (with_reducible exact ih6 _ _ _ _ _ _ _ _)
      | (with_reducible exact ih7 _ _ _ _ _ _ _)
      | (with_reducible exact bywashlaw16_Light.mono _ _ _)
      | (with_reducible exact bywashlaw16_alive.mono _)
      | (with_reducible exact bywashref1_Plan.mono _ _ _ _)
      | (with_reducible exact pump_Plan.mono _ _ _ _)
      | (with_reducible exact pump_Sum.mono _ _)
      | (with_reducible exact LeO.refl _)
      | (with_reducible exact LeO.none _)
      | (with_reducible refine LeO.ite ?_ ?_)
      | (with_reducible refine LeO.bind ?_ (fun _ => ?_))
      | exact ih0 _ _ _ _
      | exact ih1 _ _ _ _ _ _ _ _ _
      | exact ih2 _ _ _ _ _ _ _ _
      | exact ih3 _ _ _ _ _ _ _ _ _
      | exact ih4 _ _ _ _ _ _ _ _ _ _ _
      | exact ih5 _ _ _ _ _ _ _ _
      | exact ih6 _ _ _ _ _ _ _ _
      | exact ih7 _ _ _ _ _ _ _
      | exact bywashlaw16_Light.mono _ _ _
      | exact bywashlaw16_alive.mono _
      | exact bywashref1_Plan.mono _ _ _ _
      | exact pump_Plan.mono _ _ _ _
      | exact pump_Sum.mono _ _
      | exact LeO.none _
      | refine LeO.ite ?_ ?_
      | refine LeO.bind ?_ (fun _ => ?_)
    · intro y0 y1 y2 y3 y4 y5 y6 y7
      unfold bywashlaw16_PumpTells.l3
      repeat' first
      | (with_reducible exact ih0 _ _ _ _)
      | (with_reducible exact ih1 _ _ _ _ _ _ _ _ _)
      | (with_reducible exact ih2 _ _ _ _ _ _ _ _)
      | (with_reducible exact ih3 _ _ _ _ _ _ _ _ _)
      | (with_reducible exact ih4 _ _ _ _ _ _ _ _ _ _ _)
      | (with_reducible exact ih5 _ _ _ _ _ _ _ _)
      | (with_reducible exact ih6 _ _ _ _ _ _ _ _)
      | (with_reducible exact ih7 _ _ _ _ _ _ _)
      | (with_reducible exact bywashlaw16_Light.mono _ _ _)
      | (with_reducible exact bywashlaw16_alive.mono _)
      | (with_reducible exact bywashref1_Plan.mono _ _ _ _)
      | (with_reducible exact pump_Plan.mono _ _ _ _)
      | (with_reducible exact pump_Sum.mono _ _)
      | (with_reducible exact LeO.refl _)
      | (with_reducible exact LeO.none _)
      | (with_reducible refine LeO.ite ?_ ?_)
      | (with_reducible refine LeO.bind ?_ (fun _ => ?_))
      | exact ih0 _ _ _ _
      | exact ih1 _ _ _ _ _ _ _ _ _
      | exact ih2 _ _ _ _ _ _ _ _
      | exact ih3 _ _ _ _ _ _ _ _ _
      | exact ih4 _ _ _ _ _ _ _ _ _ _ _
      | exact ih5 _ _ _ _ _ _ _ _
      | exact ih6 _ _ _ _ _ _ _ _
      | exact ih7 _ _ _ _ _ _ _
      | exact bywashlaw16_Light.mono _ _ _
      | exact bywashlaw16_alive.mono _
      | exact bywashref1_Plan.mono _ _ _ _
      | exact pump_Plan.mono _ _ _ _
      | exact pump_Sum.mono _ _
      | exact LeO.none _
      | refine LeO.ite ?_ ?_
      | refine LeO.bind ?_ (fun _ => ?_)
    · intro y0 y1 y2 y3 y4 y5 y6
      unfold bywashlaw16_PumpTells.l4
      repeat' first
      | (with_reducible exact ih0 _ _ _ _)
      | (with_reducible exact ih1 _ _ _ _ _ _ _ _ _)
      | (with_reducible exact ih2 _ _ _ _ _ _ _ _)
      | (with_reducible exact ih3 _ _ _ _ _ _ _ _ _)
      | (with_reducible exact ih4 _ _ _ _ _ _ _ _ _ _ _)
      | (with_reducible exact ih5 _ _ _ _ _ _ _ _)
      | (with_reducible exact ih6 _ _ _ _ _ _ _ _)
      | (with_reducible exact ih7 _ _ _ _ _ _ _)
      | (with_reducible exact bywashlaw16_Light.mono _ _ _)
      | (with_reducible exact bywashlaw16_alive.mono _)
      | (with_reducible exact bywashref1_Plan.mono _ _ _ _)
      | (with_reducible exact pump_Plan.mono _ _ _ _)
      | (with_reducible exact pump_Sum.mono _ _)
      | (with_reducible exact LeO.refl _)
      | (with_reducible exact LeO.none _)
      | (with_reducible refine LeO.ite ?_ ?_)
      | (with_reducible refine LeO.bind ?_ (fun _ => ?_))
      | exact ih0 _ _ _ _
      | exact ih1 _ _ _ _ _ _ _ _ _
      | exact ih2 _ _ _ _ _ _ _ _
      | exact ih3 _ _ _ _ _ _ _ _ _
      | exact ih4 _ _ _ _ _ _ _ _ _ _ _
      | exact ih5 _ _ _ _ _ _ _ _
      | exact ih6 _ _ _ _ _ _ _ _
      | exact ih7 _ _ _ _ _ _ _
      | exact bywashlaw16_Light.mono _ _ _
      | exact bywashlaw16_alive.mono _
      | exact bywashref1_Plan.mono _ _ _ _
      | exact pump_Plan.mono _ _ _ _
      | exact pump_Sum.mono _ _
      | exact LeO.none _
      | refine LeO.ite ?_ ?_
      | refine LeO.bind ?_ (fun _ => ?_)
theorem bywashlaw16_PumpTells.mono : ∀ a0 a1 a2 k, LeO (bywashlaw16_PumpTells.f k a0 a1 a2) (bywashlaw16_PumpTells.f (k + 1) a0 a1 a2) := by
  intro a0 a1 a2 k
  obtain ⟨ih0, ih1, ih2, ih3, ih4, ih5, ih6, ih7⟩ := bywashlaw16_PumpTells.mono_l k
  unfold bywashlaw16_PumpTells.f
  repeat' first
      | (with_reducible exact ih0 _ _ _ _)
      | (with_reducible exact ih1 _ _ _ _ _ _ _ _ _)
      | (with_reducible exact ih2 _ _ _ _ _ _ _ _)
      | (with_reducible exact ih3 _ _ _ _ _ _ _ _ _)
      | (with_reducible exact ih4 _ _ _ _ _ _ _ _ _ _ _)
      | (with_reducible exact ih5 _ _ _ _ _ _ _ _)
      | (with_reducible exact ih6 _ _ _ _ _ _ _ _)
      | (with_reducible exact ih7 _ _ _ _ _ _ _)
      | (with_reducible exact bywashlaw16_Light.mono _ _ _)
      | (with_reducible exact bywashlaw16_alive.mono _)
      | (with_reducible exact bywashref1_Plan.mono _ _ _ _)
      | (with_reducible exact pump_Plan.mono _ _ _ _)
      | (with_reducible exact pump_Sum.mono _ _)
      | (with_reducible exact LeO.refl _)
      | (with_reducible exact LeO.none _)
      | (with_reducible refine LeO.ite ?_ ?_)
      | (with_reducible refine LeO.bind ?_ (fun _ => ?_))
      | exact ih0 _ _ _ _
      | exact ih1 _ _ _ _ _ _ _ _ _
      | exact ih2 _ _ _ _ _ _ _ _
      | exact ih3 _ _ _ _ _ _ _ _ _
      | exact ih4 _ _ _ _ _ _ _ _ _ _ _
      | exact ih5 _ _ _ _ _ _ _ _
      | exact ih6 _ _ _ _ _ _ _ _
      | exact ih7 _ _ _ _ _ _ _
      | exact bywashlaw16_Light.mono _ _ _
      | exact bywashlaw16_alive.mono _
      | exact bywashref1_Plan.mono _ _ _ _
      | exact pump_Plan.mono _ _ _ _
      | exact pump_Sum.mono _ _
      | exact LeO.none _
      | refine LeO.ite ?_ ?_
      | refine LeO.bind ?_ (fun _ => ?_)
set_option maxHeartbeats 8000000 in
set_option maxRecDepth 100000 in
theorem bywashlaw16_PumpTells.callsA (k : Nat) (a0 : Int) (a1 : Int) (A2 : Option Addr) (c2 : Nat) (l2 : List (S26)) (r : Bool) (wA : World) (hr2 : Kd.C k26 wA A2 l2.length l2) (hc2 : l2.length ≤ c2) (h : bywashlaw16_PumpTells.f k a0 a1 l2 = some r) :
    Calls Try.prog 3 #[.int .i64 a0, .int .i64 a1, .slice A2 l2.length c2] wA fun e w' => e = .returned (.bool r) ∧ Below wA.heap.size wA w' := by
  have hu26 := Try.underlying26
  have hu28 := Try.underlying28
  have hu34 := Try.underlying34
  have HR2 := Aside0.mk hr2
  have HC2 := Aside0.mk hc2
  clear hr2 hc2
  have HB := Aside0.mk (Below.refl wA.heap.size wA)
  have H : ((bywashlaw16_Light.f k a1 l2).bind fun t136 => (if t136 = true then ((bywashlaw16_alive.f k).bind fun t137 => (bywashlaw16_PumpTells.j0 k a0 a1 l2 (!t137))) else (bywashlaw16_PumpTells.j0 k a0 a1 l2 true))) = some r := h
  clear h
  have HC4 := Aside0.mk H
  clear H
  go_enter Try.func3, Try.ntmps3
  go_upto_region 1 with (fail)
  repeat (go_quiet (fail); go_upto_region 1 with (fail))
  go_cut [26] (fun v26 wc => ∃ (kq : Nat) (x26_3 : Bool), v26 = .bool x26_3 ∧ Aside0 (bywashlaw16_PumpTells.j0 kq a0 a1 l2 x26_3 = some r) ∧ Aside0 (kq ≤ k) ∧ Aside0 (Below wA.heap.size wA wc))
  case first =>
    have H := HC4.out
    clear HC4
    replace H := Option.bind_eq_some_iff.mp H
    obtain ⟨t136, A50, H⟩ := H
    replace H : (if t136 = true then ((bywashlaw16_alive.f k).bind fun t137 => (bywashlaw16_PumpTells.j0 k a0 a1 l2 (!t137))) else (bywashlaw16_PumpTells.j0 k a0 a1 l2 true)) = some r := H
    have A5 := Aside0.mk A50
    clear A50
    by_cases c6 : t136 = true
    · subst c6
      have H1 : ((bywashlaw16_alive.f k).bind fun t137 => (bywashlaw16_PumpTells.j0 k a0 a1 l2 (!t137))) = some r := by rw [if_pos rfl] at H; exact H
      clear H
      have H := H1
      clear H1
      replace H := Option.bind_eq_some_iff.mp H
      obtain ⟨t137, A70, H⟩ := H
      replace H : (bywashlaw16_PumpTells.j0 k a0 a1 l2 (!t137)) = some r := H
      have A7 := Aside0.mk A70
      clear A70
      have H' := Aside0.mk H
      clear H
      go_wp2_with (first | (go_at_call 7; (with_reducible refine (bywashlaw16_Light.calls k a1 _ _ l2 true _ ?side1 ?side2 A5.out).mono ?_); (case side1 => repeat (first | exact (Kd.C_below HR2.out HB.out) | (with_reducible refine Kd.C_alloc ?_ _) | (with_reducible refine Kd.C_drewN ?_ _) | (with_reducible refine Kd.C_drew ?_))); (case side2 => exact HC2.out); rintro e w8 ⟨rfl, hb⟩; have n0_ := Aside0.mk (below_step (by repeat (first | (with_reducible first | exact HB.out | apply below_alloc | apply pw_below_drewN | apply below_drew1) | exact HB.out)) hb); clear HB; have HB := n0_; clear n0_; (try clear hb); (try clear hb2); (try clear hk); (try clear hi)) | (go_at_call 8; (with_reducible refine (bywashlaw16_alive.calls k  t137 _ A7.out).mono ?_); rintro e w9 ⟨rfl, hb⟩; have n0_ := Aside0.mk (below_step (by repeat (first | (with_reducible first | exact HB.out | apply below_alloc | apply pw_below_drewN | apply below_drew1) | exact HB.out)) hb); clear HB; have HB := n0_; clear n0_; (try clear hb); (try clear hb2); (try clear hk); (try clear hi)))
      repeat (go_quiet (first | (go_at_call 7; (with_reducible refine (bywashlaw16_Light.calls k a1 _ _ l2 true _ ?side1 ?side2 A5.out).mono ?_); (case side1 => repeat (first | exact (Kd.C_below HR2.out HB.out) | (with_reducible refine Kd.C_alloc ?_ _) | (with_reducible refine Kd.C_drewN ?_ _) | (with_reducible refine Kd.C_drew ?_))); (case side2 => exact HC2.out); rintro e w8 ⟨rfl, hb⟩; have n0_ := Aside0.mk (below_step (by repeat (first | (with_reducible first | exact HB.out | apply below_alloc | apply pw_below_drewN | apply below_drew1) | exact HB.out)) hb); clear HB; have HB := n0_; clear n0_; (try clear hb); (try clear hb2); (try clear hk); (try clear hi)) | (go_at_call 8; (with_reducible refine (bywashlaw16_alive.calls k  t137 _ A7.out).mono ?_); rintro e w9 ⟨rfl, hb⟩; have n0_ := Aside0.mk (below_step (by repeat (first | (with_reducible first | exact HB.out | apply below_alloc | apply pw_below_drewN | apply below_drew1) | exact HB.out)) hb); clear HB; have HB := n0_; clear n0_; (try clear hb); (try clear hb2); (try clear hk); (try clear hi))); try go_wp2_with (first | (go_at_call 7; (with_reducible refine (bywashlaw16_Light.calls k a1 _ _ l2 true _ ?side1 ?side2 A5.out).mono ?_); (case side1 => repeat (first | exact (Kd.C_below HR2.out HB.out) | (with_reducible refine Kd.C_alloc ?_ _) | (with_reducible refine Kd.C_drewN ?_ _) | (with_reducible refine Kd.C_drew ?_))); (case side2 => exact HC2.out); rintro e w8 ⟨rfl, hb⟩; have n0_ := Aside0.mk (below_step (by repeat (first | (with_reducible first | exact HB.out | apply below_alloc | apply pw_below_drewN | apply below_drew1) | exact HB.out)) hb); clear HB; have HB := n0_; clear n0_; (try clear hb); (try clear hb2); (try clear hk); (try clear hi)) | (go_at_call 8; (with_reducible refine (bywashlaw16_alive.calls k  t137 _ A7.out).mono ?_); rintro e w9 ⟨rfl, hb⟩; have n0_ := Aside0.mk (below_step (by repeat (first | (with_reducible first | exact HB.out | apply below_alloc | apply pw_below_drewN | apply below_drew1) | exact HB.out)) hb); clear HB; have HB := n0_; clear n0_; (try clear hb); (try clear hb2); (try clear hk); (try clear hi))))
      go_meet
      case rel => exact ⟨_, (!t137), (by first | rfl | (simp; done) | (simp [*]; done)), H', ⟨by first | omega | exact Nat.le_refl _⟩, ⟨by repeat (first | (with_reducible first | exact HB.out | apply below_alloc | apply pw_below_drewN | apply below_drew1) | exact HB.out)⟩⟩
    · replace c6 := Bool.eq_false_iff.mpr c6
      subst c6
      have H1 : (bywashlaw16_PumpTells.j0 k a0 a1 l2 true) = some r := by rw [if_neg (show ¬ (false = true) by decide)] at H; exact H
      clear H
      have H := H1
      clear H1
      have H' := Aside0.mk H
      clear H
      go_wp2_with (first | (go_at_call 7; (with_reducible refine (bywashlaw16_Light.calls k a1 _ _ l2 false _ ?side1 ?side2 A5.out).mono ?_); (case side1 => repeat (first | exact (Kd.C_below HR2.out HB.out) | (with_reducible refine Kd.C_alloc ?_ _) | (with_reducible refine Kd.C_drewN ?_ _) | (with_reducible refine Kd.C_drew ?_))); (case side2 => exact HC2.out); rintro e w10 ⟨rfl, hb⟩; have n0_ := Aside0.mk (below_step (by repeat (first | (with_reducible first | exact HB.out | apply below_alloc | apply pw_below_drewN | apply below_drew1) | exact HB.out)) hb); clear HB; have HB := n0_; clear n0_; (try clear hb); (try clear hb2); (try clear hk); (try clear hi)))
      repeat (go_quiet (first | (go_at_call 7; (with_reducible refine (bywashlaw16_Light.calls k a1 _ _ l2 false _ ?side1 ?side2 A5.out).mono ?_); (case side1 => repeat (first | exact (Kd.C_below HR2.out HB.out) | (with_reducible refine Kd.C_alloc ?_ _) | (with_reducible refine Kd.C_drewN ?_ _) | (with_reducible refine Kd.C_drew ?_))); (case side2 => exact HC2.out); rintro e w10 ⟨rfl, hb⟩; have n0_ := Aside0.mk (below_step (by repeat (first | (with_reducible first | exact HB.out | apply below_alloc | apply pw_below_drewN | apply below_drew1) | exact HB.out)) hb); clear HB; have HB := n0_; clear n0_; (try clear hb); (try clear hb2); (try clear hk); (try clear hi))); try go_wp2_with (first | (go_at_call 7; (with_reducible refine (bywashlaw16_Light.calls k a1 _ _ l2 false _ ?side1 ?side2 A5.out).mono ?_); (case side1 => repeat (first | exact (Kd.C_below HR2.out HB.out) | (with_reducible refine Kd.C_alloc ?_ _) | (with_reducible refine Kd.C_drewN ?_ _) | (with_reducible refine Kd.C_drew ?_))); (case side2 => exact HC2.out); rintro e w10 ⟨rfl, hb⟩; have n0_ := Aside0.mk (below_step (by repeat (first | (with_reducible first | exact HB.out | apply below_alloc | apply pw_below_drewN | apply below_drew1) | exact HB.out)) hb); clear HB; have HB := n0_; clear n0_; (try clear hb); (try clear hb2); (try clear hk); (try clear hi))))
      go_meet
      case rel => exact ⟨_, (true), (by first | rfl | (simp; done) | (simp [*]; done)), H', ⟨by first | omega | exact Nat.le_refl _⟩, ⟨by repeat (first | (with_reducible first | exact HB.out | apply below_alloc | apply pw_below_drewN | apply below_drew1) | exact HB.out)⟩⟩
  case rest =>
    clear HC4
    try clear c2
    try clear p2
    try clear c3
    try clear c6
    obtain ⟨kq, x26_3, rfl, HA, HJ3, HB⟩ := hcut
    cases kq with
    | zero => exact absurd HA.out (by simp [bywashlaw16_PumpTells.j0])
    | succ kj3 =>
      have H := HA.out
      clear HA
      simp only [bywashlaw16_PumpTells.j0] at H
      by_cases c11 : x26_3 = true
      · subst c11
        have H1 : ((bywashlaw16_alive.f kj3).bind fun t138 => (some t138)) = some r := by rw [if_pos rfl] at H; exact H
        clear H
        have H := H1
        clear H1
        replace H := Option.bind_eq_some_iff.mp H
        obtain ⟨t138, A120, H⟩ := H
        replace H : (some t138) = some r := H
        have A12 := Aside0.mk A120
        clear A120
        obtain rfl := Option.some.inj H
        go_wp2_with (first | (go_at_call 8; (with_reducible refine (bywashlaw16_alive.calls kj3  t138 _ A12.out).mono ?_); rintro e w13 ⟨rfl, hb⟩; have n0_ := Aside0.mk (below_step (by repeat (first | (with_reducible first | exact HB.out | apply below_alloc | apply pw_below_drewN | apply below_drew1) | exact HB.out)) hb); clear HB; have HB := n0_; clear n0_; (try clear hb); (try clear hb2); (try clear hk); (try clear hi)))
        repeat (go_quiet (first | (go_at_call 8; (with_reducible refine (bywashlaw16_alive.calls kj3  t138 _ A12.out).mono ?_); rintro e w13 ⟨rfl, hb⟩; have n0_ := Aside0.mk (below_step (by repeat (first | (with_reducible first | exact HB.out | apply below_alloc | apply pw_below_drewN | apply below_drew1) | exact HB.out)) hb); clear HB; have HB := n0_; clear n0_; (try clear hb); (try clear hb2); (try clear hk); (try clear hi))); try go_wp2_with (first | (go_at_call 8; (with_reducible refine (bywashlaw16_alive.calls kj3  t138 _ A12.out).mono ?_); rintro e w13 ⟨rfl, hb⟩; have n0_ := Aside0.mk (below_step (by repeat (first | (with_reducible first | exact HB.out | apply below_alloc | apply pw_below_drewN | apply below_drew1) | exact HB.out)) hb); clear HB; have HB := n0_; clear n0_; (try clear hb); (try clear hb2); (try clear hk); (try clear hi))))
        go_ret
        exact ⟨by first | rfl | (simp [errW_none, errW_some] <;> rfl) | (simp [*, errW_none, errW_some] <;> rfl), by repeat (first | (with_reducible first | exact HB.out | apply below_alloc | apply pw_below_drewN | apply below_drew1) | exact HB.out)⟩
      · replace c11 := Bool.eq_false_iff.mpr c11
        subst c11
        have H1 : (if ([] : List (S26)).length + l2.length < 4398046511104 then ((some (([] : List (S26)) ++ l2 : List (S26))).bind fun y139 => (if y139.length < 4398046511104 then ((some (y139 ++ [(⟨(-77), 0, 0, false⟩ : S26)] : List (S26))).bind fun y142 => (if 0 ≤ (l2.length : Int) then (if (l2.length : Int) ≤ (y142.length : Int) then (bywashlaw16_PumpTells.l0 kj3 a0 a1 l2 (y142.take ((l2.length : Int) : Int).toNat) ([] : List (S28)) l2 (l2.length : Int) 0 y142) else (none)) else (none))) else (none))) else (none)) = some r := by rw [if_neg (show ¬ (false = true) by decide)] at H; exact H
        clear H
        have H := H1
        clear H1
        by_cases c14 : ([] : List (S26)).length + l2.length < 4398046511104
        · rw [if_pos c14] at H
          have LMc14 := Aside0.mk c14
          clear c14
          obtain ⟨y139, hy139⟩ : ∃ y_ : List (S26), y_ = (([] : List (S26)) ++ l2) := ⟨_, rfl⟩
          replace H : (if y139.length < 4398046511104 then ((some (y139 ++ [(⟨(-77), 0, 0, false⟩ : S26)] : List (S26))).bind fun y142 => (if 0 ≤ (l2.length : Int) then (if (l2.length : Int) ≤ (y142.length : Int) then (bywashlaw16_PumpTells.l0 kj3 a0 a1 l2 (y142.take ((l2.length : Int) : Int).toNat) ([] : List (S28)) l2 (l2.length : Int) 0 y142) else (none)) else (none))) else (none)) = some r := by first | (rw [hy139]; with_reducible exact H) | (have H2_ := (Option.bind_some _ _).symm.trans H; rw [hy139]; with_reducible exact H2_) | (have H2_ := (Option.bind_some _ _).symm.trans H; with_reducible exact H2_) | with_reducible exact H | (rw [hy139]; exact H) | exact H
          have Ny139 := Aside0.mk hy139
          clear hy139
          by_cases c15 : y139.length < 4398046511104
          · rw [if_pos c15] at H
            have LMc15 := Aside0.mk c15
            clear c15
            obtain ⟨y142, hy142⟩ : ∃ y_ : List (S26), y_ = (y139 ++ [(⟨(-77), 0, 0, false⟩ : S26)]) := ⟨_, rfl⟩
            replace H : (if 0 ≤ (l2.length : Int) then (if (l2.length : Int) ≤ (y142.length : Int) then (bywashlaw16_PumpTells.l0 kj3 a0 a1 l2 (y142.take ((l2.length : Int) : Int).toNat) ([] : List (S28)) l2 (l2.length : Int) 0 y142) else (none)) else (none)) = some r := by first | (rw [hy142]; with_reducible exact H) | (have H2_ := (Option.bind_some _ _).symm.trans H; rw [hy142]; with_reducible exact H2_) | (have H2_ := (Option.bind_some _ _).symm.trans H; with_reducible exact H2_) | with_reducible exact H | (rw [hy142]; exact H) | exact H
            have Ny142 := Aside0.mk hy142
            clear hy142
            by_cases c16 : 0 ≤ (l2.length : Int)
            · rw [if_pos c16] at H
              have c16b0 := eq_true c16
              have c16b1 : decide (0 ≤ (l2.length : Int)) = true := decide_eq_true c16
              clear c16
              by_cases c17 : (l2.length : Int) ≤ (y142.length : Int)
              · rw [if_pos c17] at H
                have c17b0 := eq_true c17
                have c17b1 : decide ((l2.length : Int) ≤ (y142.length : Int)) = true := decide_eq_true c17
                clear c17
                obtain ⟨y145, hy145⟩ : ∃ y_ : List (S26), y_ = (y142.take ((l2.length : Int) : Int).toNat) := ⟨_, rfl⟩
                replace H : (bywashlaw16_PumpTells.l0 kj3 a0 a1 l2 y145 ([] : List (S28)) l2 (l2.length : Int) 0 y142) = some r := by first | (rw [hy145]; with_reducible exact H) | (have H2_ := (Option.bind_some _ _).symm.trans H; rw [hy145]; with_reducible exact H2_) | (have H2_ := (Option.bind_some _ _).symm.trans H; with_reducible exact H2_) | with_reducible exact H | (rw [hy145]; exact H) | exact H
                have Ny145 := Aside0.mk hy145
                clear hy145
                have H' := Aside0.mk H
                clear H
                go_wp2_with (first | ((with_reducible refine gate_builtin (b := .append) (xs := #[(.const (.slice none 0 0)), (.tmp 28)]) rfl ?_); (try (refine gate_guard (by rfl) ?_; dsimp only)); at_builtin; refine Kd.R_append_rows k26 (w0 := wA) wA.heap.size rfl (.const (.slice none 0 0)) (.tmp 28) 22 26 (.agg #[(.int .i64 0), (.int .i64 0), (.int .i64 0), (.bool false)]) 32 rfl Try.underlying22 info26 rfl (by decide) (by omega) (.slice none 0 0) ([] : List (S26)) l2 _ _ _ (fun _ => True) (fun _ => False) rfl rfl ?aO ?aR (fun _ _ h => h) (fun _ h => h.elim) ?aF ?aB ?aS ?aL ?_; (case aR => repeat (first | exact (Kd.C_below HR2.out HB.out) | (with_reducible refine Kd.C_alloc ?_ _) | (with_reducible refine Kd.C_drewN ?_ _) | (with_reducible refine Kd.C_drew ?_))); (case aB => exact (by repeat (first | (with_reducible first | exact HB.out | apply below_alloc | apply pw_below_drewN | apply below_drew1) | exact HB.out))); (case aF => exact (fun _ _ => trivial)); (case aO => exact ((Kd.R_nil _ _ _ _ (fun _ => True)))); (case aS => exact (below_size (by repeat (first | (with_reducible first | exact HB.out | apply below_alloc | apply pw_below_drewN | apply below_drew1) | exact HB.out)))); (case aL => have := LMc14.out; omega); intro v140 w18 ho hb hg hat; rw [← Ny139.out] at ho; have n0_ := Aside0.mk (hb); have n1_ := Aside0.mk (ho); clear HB; have HB := n0_; have HO141 := n1_; clear n0_ n1_; clear ho hb hg hat) | ((with_reducible refine gate_builtin (b := .append) (xs := #[(.tmp 29), (.tmp 31)]) rfl ?_); (try (refine gate_guard (by rfl) ?_; dsimp only)); at_builtin; refine Kd.R_append k26 (w0 := wA) wA.heap.size rfl (.tmp 29) (.tmp 31) 22 26 (.agg #[(.int .i64 0), (.int .i64 0), (.int .i64 0), (.bool false)]) 32 rfl Try.underlying22 info26 rfl (by decide) (by omega) v140 y139 (⟨(-77), 0, 0, false⟩ : S26) [.int .i64 (-77), .int .i64 0, .int .i64 0, .bool false] (fun _ => True) (fun _ => False) rfl rfl ?aP (fun _ hk => hk.elim) ?aF ?aO ?aB ?aS ?aL ?_; (case aP => exact k26_mkM _ _ _ (⟨(-77), 0, 0, false⟩ : S26)); (case aB => exact (by repeat (first | (with_reducible first | exact HB.out | apply below_alloc | apply pw_below_drewN | apply below_drew1) | exact HB.out))); (case aF => exact (fun _ _ => trivial)); (case aO => exact (by (with_reducible repeat (first | apply Kd.R_alloc | apply Kd.R_drewN | apply Kd.R_drew)); exact HO141.out)); (case aS => exact (below_size (by repeat (first | (with_reducible first | exact HB.out | apply below_alloc | apply pw_below_drewN | apply below_drew1) | exact HB.out)))); (case aL => have := LMc15.out; omega); intro v143 w19 ho hb hg hat; rw [← Ny142.out] at ho; have n0_ := Aside0.mk (hb); have n1_ := Aside0.mk (ho); clear HB; clear HO141; have HB := n0_; have HO144 := n1_; clear n0_ n1_; clear ho hb hg hat; obtain ⟨Ao21, co21, eo21⟩ := Kd.R_slice HO144.out; subst eo21; have q20 : ((l2.length : Int) : Int) ≤ ((y142.length : Int) : Int) := of_decide_eq_true (by first | (with_reducible assumption) | assumption); obtain ⟨i020, hi020, _, hsz20, _⟩ := info_parts info26; have hroom20 : y142.length ≤ co21 := (Kd.R_reads' HO144.out).2.1; have hC20 : Kd.C k26 _ Ao21 y142.length y142 := (Kd.R_reads' HO144.out).2.2; have HQ149 := Aside0.mk hroom20; have HR149 := Aside0.mk hC20; have hcut20 := cut_to (P := Try.prog) 22 26 .i64 Try.underlying22 hi020 Ao21 y142.length co21 (l2.length : Int) (of_decide_eq_true (by first | (with_reducible assumption) | assumption)) q20 hroom20; have hr20 := Kd.C_take (m := ((l2.length : Int) : Int).toNat) hC20 (by omega); have hy20 : y145.length = ((l2.length : Int) : Int).toNat := (by rw [Ny145.out, List.length_take]; omega); rw [← Ny145.out] at hr20; rw [← hy20] at hcut20; have HR148 := Aside0.mk hr20; have HC148 := Aside0.mk (show y145.length ≤ co21 from by omega); clear hr20 hC20 hroom20 hi020 hsz20; have KY20 := Aside0.mk hy20; clear hy20; have KL20 := Aside0.mk (show ((l2.length : Int) : Int).toNat ≤ y142.length from by omega); replace q20 := eq_true q20))
                repeat (go_quiet (first | ((with_reducible refine gate_builtin (b := .append) (xs := #[(.const (.slice none 0 0)), (.tmp 28)]) rfl ?_); (try (refine gate_guard (by rfl) ?_; dsimp only)); at_builtin; refine Kd.R_append_rows k26 (w0 := wA) wA.heap.size rfl (.const (.slice none 0 0)) (.tmp 28) 22 26 (.agg #[(.int .i64 0), (.int .i64 0), (.int .i64 0), (.bool false)]) 32 rfl Try.underlying22 info26 rfl (by decide) (by omega) (.slice none 0 0) ([] : List (S26)) l2 _ _ _ (fun _ => True) (fun _ => False) rfl rfl ?aO ?aR (fun _ _ h => h) (fun _ h => h.elim) ?aF ?aB ?aS ?aL ?_; (case aR => repeat (first | exact (Kd.C_below HR2.out HB.out) | (with_reducible refine Kd.C_alloc ?_ _) | (with_reducible refine Kd.C_drewN ?_ _) | (with_reducible refine Kd.C_drew ?_))); (case aB => exact (by repeat (first | (with_reducible first | exact HB.out | apply below_alloc | apply pw_below_drewN | apply below_drew1) | exact HB.out))); (case aF => exact (fun _ _ => trivial)); (case aO => exact ((Kd.R_nil _ _ _ _ (fun _ => True)))); (case aS => exact (below_size (by repeat (first | (with_reducible first | exact HB.out | apply below_alloc | apply pw_below_drewN | apply below_drew1) | exact HB.out)))); (case aL => have := LMc14.out; omega); intro v140 w18 ho hb hg hat; rw [← Ny139.out] at ho; have n0_ := Aside0.mk (hb); have n1_ := Aside0.mk (ho); clear HB; have HB := n0_; have HO141 := n1_; clear n0_ n1_; clear ho hb hg hat) | ((with_reducible refine gate_builtin (b := .append) (xs := #[(.tmp 29), (.tmp 31)]) rfl ?_); (try (refine gate_guard (by rfl) ?_; dsimp only)); at_builtin; refine Kd.R_append k26 (w0 := wA) wA.heap.size rfl (.tmp 29) (.tmp 31) 22 26 (.agg #[(.int .i64 0), (.int .i64 0), (.int .i64 0), (.bool false)]) 32 rfl Try.underlying22 info26 rfl (by decide) (by omega) v140 y139 (⟨(-77), 0, 0, false⟩ : S26) [.int .i64 (-77), .int .i64 0, .int .i64 0, .bool false] (fun _ => True) (fun _ => False) rfl rfl ?aP (fun _ hk => hk.elim) ?aF ?aO ?aB ?aS ?aL ?_; (case aP => exact k26_mkM _ _ _ (⟨(-77), 0, 0, false⟩ : S26)); (case aB => exact (by repeat (first | (with_reducible first | exact HB.out | apply below_alloc | apply pw_below_drewN | apply below_drew1) | exact HB.out))); (case aF => exact (fun _ _ => trivial)); (case aO => exact (by (with_reducible repeat (first | apply Kd.R_alloc | apply Kd.R_drewN | apply Kd.R_drew)); exact HO141.out)); (case aS => exact (below_size (by repeat (first | (with_reducible first | exact HB.out | apply below_alloc | apply pw_below_drewN | apply below_drew1) | exact HB.out)))); (case aL => have := LMc15.out; omega); intro v143 w19 ho hb hg hat; rw [← Ny142.out] at ho; have n0_ := Aside0.mk (hb); have n1_ := Aside0.mk (ho); clear HB; clear HO141; have HB := n0_; have HO144 := n1_; clear n0_ n1_; clear ho hb hg hat; obtain ⟨Ao21, co21, eo21⟩ := Kd.R_slice HO144.out; subst eo21; have q20 : ((l2.length : Int) : Int) ≤ ((y142.length : Int) : Int) := of_decide_eq_true (by first | (with_reducible assumption) | assumption); obtain ⟨i020, hi020, _, hsz20, _⟩ := info_parts info26; have hroom20 : y142.length ≤ co21 := (Kd.R_reads' HO144.out).2.1; have hC20 : Kd.C k26 _ Ao21 y142.length y142 := (Kd.R_reads' HO144.out).2.2; have HQ149 := Aside0.mk hroom20; have HR149 := Aside0.mk hC20; have hcut20 := cut_to (P := Try.prog) 22 26 .i64 Try.underlying22 hi020 Ao21 y142.length co21 (l2.length : Int) (of_decide_eq_true (by first | (with_reducible assumption) | assumption)) q20 hroom20; have hr20 := Kd.C_take (m := ((l2.length : Int) : Int).toNat) hC20 (by omega); have hy20 : y145.length = ((l2.length : Int) : Int).toNat := (by rw [Ny145.out, List.length_take]; omega); rw [← Ny145.out] at hr20; rw [← hy20] at hcut20; have HR148 := Aside0.mk hr20; have HC148 := Aside0.mk (show y145.length ≤ co21 from by omega); clear hr20 hC20 hroom20 hi020 hsz20; have KY20 := Aside0.mk hy20; clear hy20; have KL20 := Aside0.mk (show ((l2.length : Int) : Int).toNat ≤ y142.length from by omega); replace q20 := eq_true q20)); try go_wp2_with (first | ((with_reducible refine gate_builtin (b := .append) (xs := #[(.const (.slice none 0 0)), (.tmp 28)]) rfl ?_); (try (refine gate_guard (by rfl) ?_; dsimp only)); at_builtin; refine Kd.R_append_rows k26 (w0 := wA) wA.heap.size rfl (.const (.slice none 0 0)) (.tmp 28) 22 26 (.agg #[(.int .i64 0), (.int .i64 0), (.int .i64 0), (.bool false)]) 32 rfl Try.underlying22 info26 rfl (by decide) (by omega) (.slice none 0 0) ([] : List (S26)) l2 _ _ _ (fun _ => True) (fun _ => False) rfl rfl ?aO ?aR (fun _ _ h => h) (fun _ h => h.elim) ?aF ?aB ?aS ?aL ?_; (case aR => repeat (first | exact (Kd.C_below HR2.out HB.out) | (with_reducible refine Kd.C_alloc ?_ _) | (with_reducible refine Kd.C_drewN ?_ _) | (with_reducible refine Kd.C_drew ?_))); (case aB => exact (by repeat (first | (with_reducible first | exact HB.out | apply below_alloc | apply pw_below_drewN | apply below_drew1) | exact HB.out))); (case aF => exact (fun _ _ => trivial)); (case aO => exact ((Kd.R_nil _ _ _ _ (fun _ => True)))); (case aS => exact (below_size (by repeat (first | (with_reducible first | exact HB.out | apply below_alloc | apply pw_below_drewN | apply below_drew1) | exact HB.out)))); (case aL => have := LMc14.out; omega); intro v140 w18 ho hb hg hat; rw [← Ny139.out] at ho; have n0_ := Aside0.mk (hb); have n1_ := Aside0.mk (ho); clear HB; have HB := n0_; have HO141 := n1_; clear n0_ n1_; clear ho hb hg hat) | ((with_reducible refine gate_builtin (b := .append) (xs := #[(.tmp 29), (.tmp 31)]) rfl ?_); (try (refine gate_guard (by rfl) ?_; dsimp only)); at_builtin; refine Kd.R_append k26 (w0 := wA) wA.heap.size rfl (.tmp 29) (.tmp 31) 22 26 (.agg #[(.int .i64 0), (.int .i64 0), (.int .i64 0), (.bool false)]) 32 rfl Try.underlying22 info26 rfl (by decide) (by omega) v140 y139 (⟨(-77), 0, 0, false⟩ : S26) [.int .i64 (-77), .int .i64 0, .int .i64 0, .bool false] (fun _ => True) (fun _ => False) rfl rfl ?aP (fun _ hk => hk.elim) ?aF ?aO ?aB ?aS ?aL ?_; (case aP => exact k26_mkM _ _ _ (⟨(-77), 0, 0, false⟩ : S26)); (case aB => exact (by repeat (first | (with_reducible first | exact HB.out | apply below_alloc | apply pw_below_drewN | apply below_drew1) | exact HB.out))); (case aF => exact (fun _ _ => trivial)); (case aO => exact (by (with_reducible repeat (first | apply Kd.R_alloc | apply Kd.R_drewN | apply Kd.R_drew)); exact HO141.out)); (case aS => exact (below_size (by repeat (first | (with_reducible first | exact HB.out | apply below_alloc | apply pw_below_drewN | apply below_drew1) | exact HB.out)))); (case aL => have := LMc15.out; omega); intro v143 w19 ho hb hg hat; rw [← Ny142.out] at ho; have n0_ := Aside0.mk (hb); have n1_ := Aside0.mk (ho); clear HB; clear HO141; have HB := n0_; have HO144 := n1_; clear n0_ n1_; clear ho hb hg hat; obtain ⟨Ao21, co21, eo21⟩ := Kd.R_slice HO144.out; subst eo21; have q20 : ((l2.length : Int) : Int) ≤ ((y142.length : Int) : Int) := of_decide_eq_true (by first | (with_reducible assumption) | assumption); obtain ⟨i020, hi020, _, hsz20, _⟩ := info_parts info26; have hroom20 : y142.length ≤ co21 := (Kd.R_reads' HO144.out).2.1; have hC20 : Kd.C k26 _ Ao21 y142.length y142 := (Kd.R_reads' HO144.out).2.2; have HQ149 := Aside0.mk hroom20; have HR149 := Aside0.mk hC20; have hcut20 := cut_to (P := Try.prog) 22 26 .i64 Try.underlying22 hi020 Ao21 y142.length co21 (l2.length : Int) (of_decide_eq_true (by first | (with_reducible assumption) | assumption)) q20 hroom20; have hr20 := Kd.C_take (m := ((l2.length : Int) : Int).toNat) hC20 (by omega); have hy20 : y145.length = ((l2.length : Int) : Int).toNat := (by rw [Ny145.out, List.length_take]; omega); rw [← Ny145.out] at hr20; rw [← hy20] at hcut20; have HR148 := Aside0.mk hr20; have HC148 := Aside0.mk (show y145.length ≤ co21 from by omega); clear hr20 hC20 hroom20 hi020 hsz20; have KY20 := Aside0.mk hy20; clear hy20; have KL20 := Aside0.mk (show ((l2.length : Int) : Int).toNat ≤ y142.length from by omega); replace q20 := eq_true q20)))
                obtain ⟨w, hw_⟩ : ∃ w_ : World, w_ = w19 := ⟨_, rfl⟩
                subst hw_
                have HB0 := HB
                clear HB
                have HB := Aside0.mk (Below.refl w.heap.size w)
                have n_ := Aside0.mk (Kd.C_below HR2.out HB0.out)
                clear HR2
                have HR2 := n_
                clear n_
                go_loopg [8, 38] kj3 (fun kq v8 v38 w' => ∃ (x8_2 : List (S28)) (x38_2 : Int), v38 = .int .i64 x38_2 ∧ Aside0 (bywashlaw16_PumpTells.l0 kq a0 a1 l2 y145 x8_2 l2 (l2.length : Int) x38_2 y142 = some r) ∧ Aside0 (kq ≤ kj3) ∧ Aside0 (Kd.R k28 28 w' w.heap.size (fun _ => True) v8 x8_2) ∧ Aside0 (Below w.heap.size w w'))
                case atStart => exact ⟨(([] : List (S28))), (0), (by first | rfl | (simp; done) | (simp [*]; done)), H', ⟨Nat.le_refl _⟩, ⟨by first | exact Kd.R_nil _ _ _ _ _ | exact Kd.N_nil _ _ _ _ _ | exact Kd.V_nil _ _ _ _ _ | exact Kd.Q_nil _ _ _ _ _ | exact Kd.S_nil _ _ _ _ _⟩, ⟨by repeat (first | (with_reducible first | exact HB.out | apply below_alloc | apply pw_below_drewN | apply below_drew1) | exact HB.out)⟩⟩
                case round =>
                  clear H'
                  try clear c1
                  try clear c2
                  try clear p2
                  try clear q2
                  try clear c3
                  try clear c6
                  try clear c11
                  try clear c14
                  try clear c15
                  try clear c16
                  try clear c16b0
                  try clear c16b1
                  try clear c17
                  try clear c17b0
                  try clear c17b1
                  try clear q20
                  try clear p2
                  try clear q20
                  obtain ⟨x8_2, x38_2, rfl, HA, HK2, HO_8, HB⟩ := hrel
                  cases gk with
                  | zero => exact absurd HA.out (by simp [bywashlaw16_PumpTells.l0])
                  | succ k2 =>
                    have H := HA.out
                    clear HA
                    simp only [bywashlaw16_PumpTells.l0] at H
                    by_cases c22 : x38_2 < (l2.length : Int)
                    · rw [if_pos c22] at H
                      have c22b0 : decide (x38_2 < (l2.length : Int)) = true := decide_eq_true c22
                      clear c22
                      by_cases c23 : 0 ≤ x38_2
                      · rw [if_pos c23] at H
                        have c23b0 : decide (0 ≤ x38_2) = true := decide_eq_true c23
                        clear c23
                        by_cases c24 : x38_2 < (l2.length : Int)
                        · rw [if_pos c24] at H
                          have c24b0 : decide (x38_2 < (l2.length : Int)) = true := decide_eq_true c24
                          clear c24
                          by_cases c25 : x8_2.length < 4398046511104
                          · rw [if_pos c25] at H
                            have LMc25 := Aside0.mk c25
                            clear c25
                            obtain ⟨y152, hy152⟩ : ∃ y_ : List (S28), y_ = (x8_2 ++ [(⟨(rd_T26 l2 x38_2).f0, (rd_T26 l2 x38_2).f1, (rd_T26 l2 x38_2).f2, (rd_T26 l2 x38_2).f3⟩ : S28)]) := ⟨_, rfl⟩
                            replace H : (bywashlaw16_PumpTells.l0 k2 a0 a1 l2 y145 y152 l2 (l2.length : Int) (wrap64 (x38_2 + 1)) y142) = some r := by first | (rw [hy152]; with_reducible exact H) | (have H2_ := (Option.bind_some _ _).symm.trans H; rw [hy152]; with_reducible exact H2_) | (have H2_ := (Option.bind_some _ _).symm.trans H; with_reducible exact H2_) | with_reducible exact H | (rw [hy152]; exact H) | exact H
                            have Ny152 := Aside0.mk hy152
                            clear hy152
                            have H' := Aside0.mk H
                            clear H
                            have p150 : 0 ≤ (x38_2 : Int) := of_decide_eq_true (by first | (with_reducible assumption) | assumption)
                            have q150 : x38_2 < (l2.length : Int) := of_decide_eq_true (by first | (with_reducible assumption) | assumption)
                            obtain ⟨ad150, e150, hx150_0, hx150_1, hx150_2, hx150_3⟩ := at_T26 HR2.out x38_2 p150 q150
                            cases e150
                            replace hx150_0 := (HB.out.cell (World.block_lt_of_cell? w _ hx150_0)).trans hx150_0
                            replace hx150_1 := (HB.out.cell (World.block_lt_of_cell? w _ hx150_1)).trans hx150_1
                            replace hx150_2 := (HB.out.cell (World.block_lt_of_cell? w _ hx150_2)).trans hx150_2
                            replace hx150_3 := (HB.out.cell (World.block_lt_of_cell? w _ hx150_3)).trans hx150_3
                            replace p150 := eq_true p150
                            replace q150 := eq_true q150
                            go_wp2_with (first | ((with_reducible refine gate_dst (N := 10) rfl ?_); (try (refine gate_guard (by rfl) ?_; dsimp only)); refine box_event ?hg (N := 10) ?hd (cs := #[.int .i64 0, .int .i64 0, .int .i64 0, .bool false]) (t := 26) ?hr ?_; (case hd => rfl); (case hg => rfl); (case hr => first | (go_simp; done) | (go_simp; rfl)); intro gb151 hg w26 hbox hb; have n0_ := Aside0.mk (Kd.R_below (by (with_reducible repeat (first | apply Kd.R_alloc | apply Kd.R_drewN | apply Kd.R_drew)); exact HO_8.out) hb); have n1_ := Aside0.mk (below_step (by repeat (first | (with_reducible first | exact HB.out | apply below_alloc | apply pw_below_drewN | apply below_drew1) | exact HB.out)) hb); have n2_ := Aside0.mk (hbox); have n3_ := Aside0.mk ((by rw [hg]; exact (below_size (by repeat (first | (with_reducible first | exact HB.out | apply below_alloc | apply pw_below_drewN | apply below_drew1) | exact HB.out))) : w.heap.size ≤ gb151)); have n4_ := Aside0.mk ((by rw [hg]; exact (below_size (by repeat (first | (with_reducible first | exact HB.out | apply below_alloc | apply pw_below_drewN | apply below_drew1) | exact HB.out))) : w.heap.size ≤ gb151)); clear HO_8; clear HB; have HO_8 := n0_; have HB := n1_; have BK151 := n2_; have GW151 := n3_; have GE151 := n4_; clear n0_ n1_ n2_ n3_ n4_; clear hb hbox hg; have hcz27_0 : w26.cell? ⟨gb151, 0, none⟩ = some (.int .i64 0) := (blk_cell BK151.out 0).trans rfl; have hcz27_1 : w26.cell? ⟨gb151, 1, none⟩ = some (.int .i64 0) := (blk_cell BK151.out 1).trans rfl; have hcz27_2 : w26.cell? ⟨gb151, 2, none⟩ = some (.int .i64 0) := (blk_cell BK151.out 2).trans rfl; have hcz27_3 : w26.cell? ⟨gb151, 3, none⟩ = some (.bool false) := (blk_cell BK151.out 3).trans rfl; have hfz27_0 := blk_frozen BK151.out 0; have hfz27_1 := blk_frozen BK151.out 1; have hfz27_2 := blk_frozen BK151.out 2; have hfz27_3 := blk_frozen BK151.out 3) | ((with_reducible refine gate_builtin (b := .append) (xs := #[(.tmp 42), (.tmp 52)]) rfl ?_); (try (refine gate_guard (by rfl) ?_; dsimp only)); at_builtin; refine Kd.R_append k28 (w0 := w) w.heap.size rfl (.tmp 42) (.tmp 52) 27 28 (.agg #[(.int .i64 0), (.int .i64 0), (.int .i64 0), (.bool false)]) 32 rfl Try.underlying27 info28 rfl (by decide) (by omega) u8 x8_2 (⟨(rd_T26 l2 x38_2).f0, (rd_T26 l2 x38_2).f1, (rd_T26 l2 x38_2).f2, (rd_T26 l2 x38_2).f3⟩ : S28) [.int .i64 ((rd_T26 l2 x38_2).f0), .int .i64 ((rd_T26 l2 x38_2).f1), .int .i64 ((rd_T26 l2 x38_2).f2), .bool ((rd_T26 l2 x38_2).f3)] (fun _ => True) (fun _ => False) rfl (by first | (go_simp; done) | (go_simp; rfl)) ?aP (fun _ hk => hk.elim) ?aF ?aO ?aB ?aS ?aL ?_; (case aP => exact k28_mkM _ _ _ (⟨(rd_T26 l2 x38_2).f0, (rd_T26 l2 x38_2).f1, (rd_T26 l2 x38_2).f2, (rd_T26 l2 x38_2).f3⟩ : S28)); (case aB => exact (by repeat (first | (with_reducible first | exact HB.out | apply below_alloc | apply pw_below_drewN | apply below_drew1 | refine below_set ?_ GE151.out) | exact HB.out))); (case aF => exact (fun _ _ => trivial)); (case aO => exact (by (with_reducible repeat (first | apply Kd.R_alloc | apply Kd.R_drewN | apply Kd.R_drew)); exact Kd.R_mono (Kd.R_far (p := ⟨gb151, 3, none⟩) (Kd.R_far (p := ⟨gb151, 2, none⟩) (Kd.R_far (p := ⟨gb151, 1, none⟩) (Kd.R_far (p := ⟨gb151, 0, none⟩) (Kd.R_types HO_8.out BK151.out (by decide)) (fun _ hk => hk.2) (.int .i64 ((rd_T26 l2 x38_2).f0))) (fun _ hk => hk.2) (.int .i64 ((rd_T26 l2 x38_2).f1))) (fun _ hk => hk.2) (.int .i64 ((rd_T26 l2 x38_2).f2))) (fun _ hk => hk.2) (.bool ((rd_T26 l2 x38_2).f3))) (fun _ hk => trivial))); (case aS => exact (below_size (by repeat (first | (with_reducible first | exact HB.out | apply below_alloc | apply pw_below_drewN | apply below_drew1 | refine below_set ?_ GE151.out) | exact HB.out)))); (case aL => have := LMc25.out; omega); intro v153 w28 ho hb hg hat; rw [← Ny152.out] at ho; have n0_ := Aside0.mk (blk_grown (g := gb151) (o := .cells #[.int .i64 ((rd_T26 l2 x38_2).f0), .int .i64 ((rd_T26 l2 x38_2).f1), .int .i64 ((rd_T26 l2 x38_2).f2), .bool ((rd_T26 l2 x38_2).f3)] 26 (0, 0)) (by (with_reducible repeat (first | refine blk_drewN ?_ _ | refine blk_drew ?_ | refine blk_alloc ?_ _)); refine blk_put (cs := #[.int .i64 ((rd_T26 l2 x38_2).f0), .int .i64 ((rd_T26 l2 x38_2).f1), .int .i64 ((rd_T26 l2 x38_2).f2), .bool false]) ?_ 3 _ rfl; (with_reducible repeat (first | refine blk_drewN ?_ _ | refine blk_drew ?_ | refine blk_alloc ?_ _)); refine blk_put (cs := #[.int .i64 ((rd_T26 l2 x38_2).f0), .int .i64 ((rd_T26 l2 x38_2).f1), .int .i64 0, .bool false]) ?_ 2 _ rfl; (with_reducible repeat (first | refine blk_drewN ?_ _ | refine blk_drew ?_ | refine blk_alloc ?_ _)); refine blk_put (cs := #[.int .i64 ((rd_T26 l2 x38_2).f0), .int .i64 0, .int .i64 0, .bool false]) ?_ 1 _ rfl; (with_reducible repeat (first | refine blk_drewN ?_ _ | refine blk_drew ?_ | refine blk_alloc ?_ _)); refine blk_put (cs := #[.int .i64 0, .int .i64 0, .int .i64 0, .bool false]) ?_ 0 _ rfl; (with_reducible repeat (first | refine blk_drewN ?_ _ | refine blk_drew ?_ | refine blk_alloc ?_ _)); exact BK151.out) hg (Kd.R_ne HO_8.out BK151.out (by decide))); have n1_ := Aside0.mk (hb); have n2_ := Aside0.mk (ho); clear BK151; clear HB; clear HO_8; have BK151 := n0_; have HB := n1_; have HO154 := n2_; clear n0_ n1_ n2_; clear ho hb hg hat))
                            repeat (go_quiet (first | ((with_reducible refine gate_dst (N := 10) rfl ?_); (try (refine gate_guard (by rfl) ?_; dsimp only)); refine box_event ?hg (N := 10) ?hd (cs := #[.int .i64 0, .int .i64 0, .int .i64 0, .bool false]) (t := 26) ?hr ?_; (case hd => rfl); (case hg => rfl); (case hr => first | (go_simp; done) | (go_simp; rfl)); intro gb151 hg w26 hbox hb; have n0_ := Aside0.mk (Kd.R_below (by (with_reducible repeat (first | apply Kd.R_alloc | apply Kd.R_drewN | apply Kd.R_drew)); exact HO_8.out) hb); have n1_ := Aside0.mk (below_step (by repeat (first | (with_reducible first | exact HB.out | apply below_alloc | apply pw_below_drewN | apply below_drew1) | exact HB.out)) hb); have n2_ := Aside0.mk (hbox); have n3_ := Aside0.mk ((by rw [hg]; exact (below_size (by repeat (first | (with_reducible first | exact HB.out | apply below_alloc | apply pw_below_drewN | apply below_drew1) | exact HB.out))) : w.heap.size ≤ gb151)); have n4_ := Aside0.mk ((by rw [hg]; exact (below_size (by repeat (first | (with_reducible first | exact HB.out | apply below_alloc | apply pw_below_drewN | apply below_drew1) | exact HB.out))) : w.heap.size ≤ gb151)); clear HO_8; clear HB; have HO_8 := n0_; have HB := n1_; have BK151 := n2_; have GW151 := n3_; have GE151 := n4_; clear n0_ n1_ n2_ n3_ n4_; clear hb hbox hg; have hcz27_0 : w26.cell? ⟨gb151, 0, none⟩ = some (.int .i64 0) := (blk_cell BK151.out 0).trans rfl; have hcz27_1 : w26.cell? ⟨gb151, 1, none⟩ = some (.int .i64 0) := (blk_cell BK151.out 1).trans rfl; have hcz27_2 : w26.cell? ⟨gb151, 2, none⟩ = some (.int .i64 0) := (blk_cell BK151.out 2).trans rfl; have hcz27_3 : w26.cell? ⟨gb151, 3, none⟩ = some (.bool false) := (blk_cell BK151.out 3).trans rfl; have hfz27_0 := blk_frozen BK151.out 0; have hfz27_1 := blk_frozen BK151.out 1; have hfz27_2 := blk_frozen BK151.out 2; have hfz27_3 := blk_frozen BK151.out 3) | ((with_reducible refine gate_builtin (b := .append) (xs := #[(.tmp 42), (.tmp 52)]) rfl ?_); (try (refine gate_guard (by rfl) ?_; dsimp only)); at_builtin; refine Kd.R_append k28 (w0 := w) w.heap.size rfl (.tmp 42) (.tmp 52) 27 28 (.agg #[(.int .i64 0), (.int .i64 0), (.int .i64 0), (.bool false)]) 32 rfl Try.underlying27 info28 rfl (by decide) (by omega) u8 x8_2 (⟨(rd_T26 l2 x38_2).f0, (rd_T26 l2 x38_2).f1, (rd_T26 l2 x38_2).f2, (rd_T26 l2 x38_2).f3⟩ : S28) [.int .i64 ((rd_T26 l2 x38_2).f0), .int .i64 ((rd_T26 l2 x38_2).f1), .int .i64 ((rd_T26 l2 x38_2).f2), .bool ((rd_T26 l2 x38_2).f3)] (fun _ => True) (fun _ => False) rfl (by first | (go_simp; done) | (go_simp; rfl)) ?aP (fun _ hk => hk.elim) ?aF ?aO ?aB ?aS ?aL ?_; (case aP => exact k28_mkM _ _ _ (⟨(rd_T26 l2 x38_2).f0, (rd_T26 l2 x38_2).f1, (rd_T26 l2 x38_2).f2, (rd_T26 l2 x38_2).f3⟩ : S28)); (case aB => exact (by repeat (first | (with_reducible first | exact HB.out | apply below_alloc | apply pw_below_drewN | apply below_drew1 | refine below_set ?_ GE151.out) | exact HB.out))); (case aF => exact (fun _ _ => trivial)); (case aO => exact (by (with_reducible repeat (first | apply Kd.R_alloc | apply Kd.R_drewN | apply Kd.R_drew)); exact Kd.R_mono (Kd.R_far (p := ⟨gb151, 3, none⟩) (Kd.R_far (p := ⟨gb151, 2, none⟩) (Kd.R_far (p := ⟨gb151, 1, none⟩) (Kd.R_far (p := ⟨gb151, 0, none⟩) (Kd.R_types HO_8.out BK151.out (by decide)) (fun _ hk => hk.2) (.int .i64 ((rd_T26 l2 x38_2).f0))) (fun _ hk => hk.2) (.int .i64 ((rd_T26 l2 x38_2).f1))) (fun _ hk => hk.2) (.int .i64 ((rd_T26 l2 x38_2).f2))) (fun _ hk => hk.2) (.bool ((rd_T26 l2 x38_2).f3))) (fun _ hk => trivial))); (case aS => exact (below_size (by repeat (first | (with_reducible first | exact HB.out | apply below_alloc | apply pw_below_drewN | apply below_drew1 | refine below_set ?_ GE151.out) | exact HB.out)))); (case aL => have := LMc25.out; omega); intro v153 w28 ho hb hg hat; rw [← Ny152.out] at ho; have n0_ := Aside0.mk (blk_grown (g := gb151) (o := .cells #[.int .i64 ((rd_T26 l2 x38_2).f0), .int .i64 ((rd_T26 l2 x38_2).f1), .int .i64 ((rd_T26 l2 x38_2).f2), .bool ((rd_T26 l2 x38_2).f3)] 26 (0, 0)) (by (with_reducible repeat (first | refine blk_drewN ?_ _ | refine blk_drew ?_ | refine blk_alloc ?_ _)); refine blk_put (cs := #[.int .i64 ((rd_T26 l2 x38_2).f0), .int .i64 ((rd_T26 l2 x38_2).f1), .int .i64 ((rd_T26 l2 x38_2).f2), .bool false]) ?_ 3 _ rfl; (with_reducible repeat (first | refine blk_drewN ?_ _ | refine blk_drew ?_ | refine blk_alloc ?_ _)); refine blk_put (cs := #[.int .i64 ((rd_T26 l2 x38_2).f0), .int .i64 ((rd_T26 l2 x38_2).f1), .int .i64 0, .bool false]) ?_ 2 _ rfl; (with_reducible repeat (first | refine blk_drewN ?_ _ | refine blk_drew ?_ | refine blk_alloc ?_ _)); refine blk_put (cs := #[.int .i64 ((rd_T26 l2 x38_2).f0), .int .i64 0, .int .i64 0, .bool false]) ?_ 1 _ rfl; (with_reducible repeat (first | refine blk_drewN ?_ _ | refine blk_drew ?_ | refine blk_alloc ?_ _)); refine blk_put (cs := #[.int .i64 0, .int .i64 0, .int .i64 0, .bool false]) ?_ 0 _ rfl; (with_reducible repeat (first | refine blk_drewN ?_ _ | refine blk_drew ?_ | refine blk_alloc ?_ _)); exact BK151.out) hg (Kd.R_ne HO_8.out BK151.out (by decide))); have n1_ := Aside0.mk (hb); have n2_ := Aside0.mk (ho); clear BK151; clear HB; clear HO_8; have BK151 := n0_; have HB := n1_; have HO154 := n2_; clear n0_ n1_ n2_; clear ho hb hg hat)); try go_wp2_with (first | ((with_reducible refine gate_dst (N := 10) rfl ?_); (try (refine gate_guard (by rfl) ?_; dsimp only)); refine box_event ?hg (N := 10) ?hd (cs := #[.int .i64 0, .int .i64 0, .int .i64 0, .bool false]) (t := 26) ?hr ?_; (case hd => rfl); (case hg => rfl); (case hr => first | (go_simp; done) | (go_simp; rfl)); intro gb151 hg w26 hbox hb; have n0_ := Aside0.mk (Kd.R_below (by (with_reducible repeat (first | apply Kd.R_alloc | apply Kd.R_drewN | apply Kd.R_drew)); exact HO_8.out) hb); have n1_ := Aside0.mk (below_step (by repeat (first | (with_reducible first | exact HB.out | apply below_alloc | apply pw_below_drewN | apply below_drew1) | exact HB.out)) hb); have n2_ := Aside0.mk (hbox); have n3_ := Aside0.mk ((by rw [hg]; exact (below_size (by repeat (first | (with_reducible first | exact HB.out | apply below_alloc | apply pw_below_drewN | apply below_drew1) | exact HB.out))) : w.heap.size ≤ gb151)); have n4_ := Aside0.mk ((by rw [hg]; exact (below_size (by repeat (first | (with_reducible first | exact HB.out | apply below_alloc | apply pw_below_drewN | apply below_drew1) | exact HB.out))) : w.heap.size ≤ gb151)); clear HO_8; clear HB; have HO_8 := n0_; have HB := n1_; have BK151 := n2_; have GW151 := n3_; have GE151 := n4_; clear n0_ n1_ n2_ n3_ n4_; clear hb hbox hg; have hcz27_0 : w26.cell? ⟨gb151, 0, none⟩ = some (.int .i64 0) := (blk_cell BK151.out 0).trans rfl; have hcz27_1 : w26.cell? ⟨gb151, 1, none⟩ = some (.int .i64 0) := (blk_cell BK151.out 1).trans rfl; have hcz27_2 : w26.cell? ⟨gb151, 2, none⟩ = some (.int .i64 0) := (blk_cell BK151.out 2).trans rfl; have hcz27_3 : w26.cell? ⟨gb151, 3, none⟩ = some (.bool false) := (blk_cell BK151.out 3).trans rfl; have hfz27_0 := blk_frozen BK151.out 0; have hfz27_1 := blk_frozen BK151.out 1; have hfz27_2 := blk_frozen BK151.out 2; have hfz27_3 := blk_frozen BK151.out 3) | ((with_reducible refine gate_builtin (b := .append) (xs := #[(.tmp 42), (.tmp 52)]) rfl ?_); (try (refine gate_guard (by rfl) ?_; dsimp only)); at_builtin; refine Kd.R_append k28 (w0 := w) w.heap.size rfl (.tmp 42) (.tmp 52) 27 28 (.agg #[(.int .i64 0), (.int .i64 0), (.int .i64 0), (.bool false)]) 32 rfl Try.underlying27 info28 rfl (by decide) (by omega) u8 x8_2 (⟨(rd_T26 l2 x38_2).f0, (rd_T26 l2 x38_2).f1, (rd_T26 l2 x38_2).f2, (rd_T26 l2 x38_2).f3⟩ : S28) [.int .i64 ((rd_T26 l2 x38_2).f0), .int .i64 ((rd_T26 l2 x38_2).f1), .int .i64 ((rd_T26 l2 x38_2).f2), .bool ((rd_T26 l2 x38_2).f3)] (fun _ => True) (fun _ => False) rfl (by first | (go_simp; done) | (go_simp; rfl)) ?aP (fun _ hk => hk.elim) ?aF ?aO ?aB ?aS ?aL ?_; (case aP => exact k28_mkM _ _ _ (⟨(rd_T26 l2 x38_2).f0, (rd_T26 l2 x38_2).f1, (rd_T26 l2 x38_2).f2, (rd_T26 l2 x38_2).f3⟩ : S28)); (case aB => exact (by repeat (first | (with_reducible first | exact HB.out | apply below_alloc | apply pw_below_drewN | apply below_drew1 | refine below_set ?_ GE151.out) | exact HB.out))); (case aF => exact (fun _ _ => trivial)); (case aO => exact (by (with_reducible repeat (first | apply Kd.R_alloc | apply Kd.R_drewN | apply Kd.R_drew)); exact Kd.R_mono (Kd.R_far (p := ⟨gb151, 3, none⟩) (Kd.R_far (p := ⟨gb151, 2, none⟩) (Kd.R_far (p := ⟨gb151, 1, none⟩) (Kd.R_far (p := ⟨gb151, 0, none⟩) (Kd.R_types HO_8.out BK151.out (by decide)) (fun _ hk => hk.2) (.int .i64 ((rd_T26 l2 x38_2).f0))) (fun _ hk => hk.2) (.int .i64 ((rd_T26 l2 x38_2).f1))) (fun _ hk => hk.2) (.int .i64 ((rd_T26 l2 x38_2).f2))) (fun _ hk => hk.2) (.bool ((rd_T26 l2 x38_2).f3))) (fun _ hk => trivial))); (case aS => exact (below_size (by repeat (first | (with_reducible first | exact HB.out | apply below_alloc | apply pw_below_drewN | apply below_drew1 | refine below_set ?_ GE151.out) | exact HB.out)))); (case aL => have := LMc25.out; omega); intro v153 w28 ho hb hg hat; rw [← Ny152.out] at ho; have n0_ := Aside0.mk (blk_grown (g := gb151) (o := .cells #[.int .i64 ((rd_T26 l2 x38_2).f0), .int .i64 ((rd_T26 l2 x38_2).f1), .int .i64 ((rd_T26 l2 x38_2).f2), .bool ((rd_T26 l2 x38_2).f3)] 26 (0, 0)) (by (with_reducible repeat (first | refine blk_drewN ?_ _ | refine blk_drew ?_ | refine blk_alloc ?_ _)); refine blk_put (cs := #[.int .i64 ((rd_T26 l2 x38_2).f0), .int .i64 ((rd_T26 l2 x38_2).f1), .int .i64 ((rd_T26 l2 x38_2).f2), .bool false]) ?_ 3 _ rfl; (with_reducible repeat (first | refine blk_drewN ?_ _ | refine blk_drew ?_ | refine blk_alloc ?_ _)); refine blk_put (cs := #[.int .i64 ((rd_T26 l2 x38_2).f0), .int .i64 ((rd_T26 l2 x38_2).f1), .int .i64 0, .bool false]) ?_ 2 _ rfl; (with_reducible repeat (first | refine blk_drewN ?_ _ | refine blk_drew ?_ | refine blk_alloc ?_ _)); refine blk_put (cs := #[.int .i64 ((rd_T26 l2 x38_2).f0), .int .i64 0, .int .i64 0, .bool false]) ?_ 1 _ rfl; (with_reducible repeat (first | refine blk_drewN ?_ _ | refine blk_drew ?_ | refine blk_alloc ?_ _)); refine blk_put (cs := #[.int .i64 0, .int .i64 0, .int .i64 0, .bool false]) ?_ 0 _ rfl; (with_reducible repeat (first | refine blk_drewN ?_ _ | refine blk_drew ?_ | refine blk_alloc ?_ _)); exact BK151.out) hg (Kd.R_ne HO_8.out BK151.out (by decide))); have n1_ := Aside0.mk (hb); have n2_ := Aside0.mk (ho); clear BK151; clear HB; clear HO_8; have BK151 := n0_; have HB := n1_; have HO154 := n2_; clear n0_ n1_ n2_; clear ho hb hg hat)))
                            go_roundg k2
                            case measure => have := HJ3.out; have := HK2.out; omega
                            case rel => exact ⟨(y152), (wrap64 (x38_2 + 1)), (by first | rfl | (simp; done) | (simp [*]; done)), H', ⟨by have := HJ3.out; have := HK2.out; omega⟩, ⟨by (with_reducible repeat (first | apply Kd.R_alloc | apply Kd.R_drewN | apply Kd.R_drew)); exact HO154.out⟩, ⟨by repeat (first | (with_reducible first | exact HB.out | apply below_alloc | apply pw_below_drewN | apply below_drew1 | refine below_set ?_ GE151.out) | exact HB.out)⟩⟩
                          · rw [if_neg c25] at H
                            exact absurd H (by simp)
                        · rw [if_neg c24] at H
                          exact absurd H (by simp)
                      · rw [if_neg c23] at H
                        exact absurd H (by simp)
                    · rw [if_neg c22] at H
                      have c22b0 : decide (x38_2 < (l2.length : Int)) = false := decide_eq_false c22
                      clear c22
                      replace H := Option.bind_eq_some_iff.mp H
                      obtain ⟨t155, A290, H⟩ := H
                      replace H : ((pump_Plan.f k2 a0 a1 y145).bind fun t158 => ((pump_Plan.f k2 a0 a1 y145).bind fun t161 => (if (t158.length : Int) = (t155.length : Int) then (bywashlaw16_PumpTells.j2 k2 l2 y145 t155 t158 t161 0 ((t161.length : Int) != (t155.length : Int)) y142) else (bywashlaw16_PumpTells.j2 k2 l2 y145 t155 t158 t161 0 true y142)))) = some r := H
                      have A29 := Aside0.mk A290
                      clear A290
                      replace H := Option.bind_eq_some_iff.mp H
                      obtain ⟨t158, A300, H⟩ := H
                      replace H : ((pump_Plan.f k2 a0 a1 y145).bind fun t161 => (if (t158.length : Int) = (t155.length : Int) then (bywashlaw16_PumpTells.j2 k2 l2 y145 t155 t158 t161 0 ((t161.length : Int) != (t155.length : Int)) y142) else (bywashlaw16_PumpTells.j2 k2 l2 y145 t155 t158 t161 0 true y142))) = some r := H
                      have A30 := Aside0.mk A300
                      clear A300
                      replace H := Option.bind_eq_some_iff.mp H
                      obtain ⟨t161, A310, H⟩ := H
                      replace H : (if (t158.length : Int) = (t155.length : Int) then (bywashlaw16_PumpTells.j2 k2 l2 y145 t155 t158 t161 0 ((t161.length : Int) != (t155.length : Int)) y142) else (bywashlaw16_PumpTells.j2 k2 l2 y145 t155 t158 t161 0 true y142)) = some r := H
                      have A31 := Aside0.mk A310
                      clear A310
                      have HC32 := Aside0.mk H
                      clear H
                      obtain ⟨Ao33, co33, eo33⟩ := Kd.R_slice HO_8.out
                      subst eo33
                      have tok10_0 : True := trivial
                      go_upto_region 13 with (first | (go_at_call 9; (with_reducible refine (bywashref1_Plan.calls k2 a0 a1 _ _ x8_2 t155 _ ?side1 ?side2 A29.out).mono ?_); (case side1 => repeat (first | exact (Kd.R_reads' HO_8.out).2.2 | (with_reducible refine Kd.C_alloc ?_ _) | (with_reducible refine Kd.C_drewN ?_ _) | (with_reducible refine Kd.C_drew ?_))); (case side2 => exact (Kd.R_reads' HO_8.out).2.1); rintro e w34 ⟨v156, rfl, ho0, hb⟩; have n0_ := Aside0.mk (Kd.R_below (by (with_reducible repeat (first | apply Kd.R_alloc | apply Kd.R_drewN | apply Kd.R_drew)); exact HO_8.out) hb); have n1_ := Aside0.mk (Kd.R_lower ho0 (below_size (by repeat (first | (with_reducible first | exact HB.out | apply below_alloc | apply pw_below_drewN | apply below_drew1) | exact HB.out)))); have n2_ := Aside0.mk (below_step (by repeat (first | (with_reducible first | exact HB.out | apply below_alloc | apply pw_below_drewN | apply below_drew1) | exact HB.out)) hb); clear HO_8; clear HB; have HO_8 := n0_; have HO157 := n1_; have HB := n2_; clear n0_ n1_ n2_; (try clear hb); (try clear hb2); (try clear hk); (try clear hi); (try clear ho0)) | (go_at_call 10; clear tok10_0; (with_reducible refine (pump_Plan.calls k2 a0 a1 _ _ y145 t158 _ ?side1 ?side2 A30.out).mono ?_); (case side1 => repeat (first | exact (Kd.C_below HR148.out HB.out) | (with_reducible refine Kd.C_alloc ?_ _) | (with_reducible refine Kd.C_drewN ?_ _) | (with_reducible refine Kd.C_drew ?_))); (case side2 => exact HC148.out); rintro e w35 ⟨v159, rfl, ho0, hb⟩; have n0_ := Aside0.mk (Kd.R_below (by (with_reducible repeat (first | apply Kd.R_alloc | apply Kd.R_drewN | apply Kd.R_drew)); exact HO_8.out) hb); have n1_ := Aside0.mk (Kd.R_below (by (with_reducible repeat (first | apply Kd.R_alloc | apply Kd.R_drewN | apply Kd.R_drew)); exact HO157.out) hb); have n2_ := Aside0.mk (Kd.R_lower ho0 (below_size (by repeat (first | (with_reducible first | exact HB.out | apply below_alloc | apply pw_below_drewN | apply below_drew1) | exact HB.out)))); have n3_ := Aside0.mk (below_step (by repeat (first | (with_reducible first | exact HB.out | apply below_alloc | apply pw_below_drewN | apply below_drew1) | exact HB.out)) hb); clear HO_8; clear HO157; clear HB; have HO_8 := n0_; have HO157 := n1_; have HO160 := n2_; have HB := n3_; clear n0_ n1_ n2_ n3_; (try clear hb); (try clear hb2); (try clear hk); (try clear hi); (try clear ho0)) | (go_at_call 10; (with_reducible refine (pump_Plan.calls k2 a0 a1 _ _ y145 t161 _ ?side1 ?side2 A31.out).mono ?_); (case side1 => repeat (first | exact (Kd.C_below HR148.out HB.out) | (with_reducible refine Kd.C_alloc ?_ _) | (with_reducible refine Kd.C_drewN ?_ _) | (with_reducible refine Kd.C_drew ?_))); (case side2 => exact HC148.out); rintro e w36 ⟨v162, rfl, ho0, hb⟩; have n0_ := Aside0.mk (Kd.R_below (by (with_reducible repeat (first | apply Kd.R_alloc | apply Kd.R_drewN | apply Kd.R_drew)); exact HO_8.out) hb); have n1_ := Aside0.mk (Kd.R_below (by (with_reducible repeat (first | apply Kd.R_alloc | apply Kd.R_drewN | apply Kd.R_drew)); exact HO157.out) hb); have n2_ := Aside0.mk (Kd.R_elder' (by (with_reducible repeat (first | apply Kd.R_alloc | apply Kd.R_drewN | apply Kd.R_drew)); exact HO160.out) (Kd.R_base ho0) hb); have n3_ := Aside0.mk (Kd.R_lower (Kd.R_new' ho0 (Kd.R_lt (by (with_reducible repeat (first | apply Kd.R_alloc | apply Kd.R_drewN | apply Kd.R_drew)); exact HO160.out))) (below_size (by repeat (first | (with_reducible first | exact HB.out | apply below_alloc | apply pw_below_drewN | apply below_drew1) | exact HB.out)))); have n4_ := Aside0.mk (below_step (by repeat (first | (with_reducible first | exact HB.out | apply below_alloc | apply pw_below_drewN | apply below_drew1) | exact HB.out)) hb); clear HO_8; clear HO157; clear HO160; clear HB; have HO_8 := n0_; have HO157 := n1_; have HO160 := n2_; have HO163 := n3_; have HB := n4_; clear n0_ n1_ n2_ n3_ n4_; (try clear hb); (try clear hb2); (try clear hk); (try clear hi); (try clear ho0)))
                      repeat (go_quiet (first | (go_at_call 9; (with_reducible refine (bywashref1_Plan.calls k2 a0 a1 _ _ x8_2 t155 _ ?side1 ?side2 A29.out).mono ?_); (case side1 => repeat (first | exact (Kd.R_reads' HO_8.out).2.2 | (with_reducible refine Kd.C_alloc ?_ _) | (with_reducible refine Kd.C_drewN ?_ _) | (with_reducible refine Kd.C_drew ?_))); (case side2 => exact (Kd.R_reads' HO_8.out).2.1); rintro e w34 ⟨v156, rfl, ho0, hb⟩; have n0_ := Aside0.mk (Kd.R_below (by (with_reducible repeat (first | apply Kd.R_alloc | apply Kd.R_drewN | apply Kd.R_drew)); exact HO_8.out) hb); have n1_ := Aside0.mk (Kd.R_lower ho0 (below_size (by repeat (first | (with_reducible first | exact HB.out | apply below_alloc | apply pw_below_drewN | apply below_drew1) | exact HB.out)))); have n2_ := Aside0.mk (below_step (by repeat (first | (with_reducible first | exact HB.out | apply below_alloc | apply pw_below_drewN | apply below_drew1) | exact HB.out)) hb); clear HO_8; clear HB; have HO_8 := n0_; have HO157 := n1_; have HB := n2_; clear n0_ n1_ n2_; (try clear hb); (try clear hb2); (try clear hk); (try clear hi); (try clear ho0)) | (go_at_call 10; clear tok10_0; (with_reducible refine (pump_Plan.calls k2 a0 a1 _ _ y145 t158 _ ?side1 ?side2 A30.out).mono ?_); (case side1 => repeat (first | exact (Kd.C_below HR148.out HB.out) | (with_reducible refine Kd.C_alloc ?_ _) | (with_reducible refine Kd.C_drewN ?_ _) | (with_reducible refine Kd.C_drew ?_))); (case side2 => exact HC148.out); rintro e w35 ⟨v159, rfl, ho0, hb⟩; have n0_ := Aside0.mk (Kd.R_below (by (with_reducible repeat (first | apply Kd.R_alloc | apply Kd.R_drewN | apply Kd.R_drew)); exact HO_8.out) hb); have n1_ := Aside0.mk (Kd.R_below (by (with_reducible repeat (first | apply Kd.R_alloc | apply Kd.R_drewN | apply Kd.R_drew)); exact HO157.out) hb); have n2_ := Aside0.mk (Kd.R_lower ho0 (below_size (by repeat (first | (with_reducible first | exact HB.out | apply below_alloc | apply pw_below_drewN | apply below_drew1) | exact HB.out)))); have n3_ := Aside0.mk (below_step (by repeat (first | (with_reducible first | exact HB.out | apply below_alloc | apply pw_below_drewN | apply below_drew1) | exact HB.out)) hb); clear HO_8; clear HO157; clear HB; have HO_8 := n0_; have HO157 := n1_; have HO160 := n2_; have HB := n3_; clear n0_ n1_ n2_ n3_; (try clear hb); (try clear hb2); (try clear hk); (try clear hi); (try clear ho0)) | (go_at_call 10; (with_reducible refine (pump_Plan.calls k2 a0 a1 _ _ y145 t161 _ ?side1 ?side2 A31.out).mono ?_); (case side1 => repeat (first | exact (Kd.C_below HR148.out HB.out) | (with_reducible refine Kd.C_alloc ?_ _) | (with_reducible refine Kd.C_drewN ?_ _) | (with_reducible refine Kd.C_drew ?_))); (case side2 => exact HC148.out); rintro e w36 ⟨v162, rfl, ho0, hb⟩; have n0_ := Aside0.mk (Kd.R_below (by (with_reducible repeat (first | apply Kd.R_alloc | apply Kd.R_drewN | apply Kd.R_drew)); exact HO_8.out) hb); have n1_ := Aside0.mk (Kd.R_below (by (with_reducible repeat (first | apply Kd.R_alloc | apply Kd.R_drewN | apply Kd.R_drew)); exact HO157.out) hb); have n2_ := Aside0.mk (Kd.R_elder' (by (with_reducible repeat (first | apply Kd.R_alloc | apply Kd.R_drewN | apply Kd.R_drew)); exact HO160.out) (Kd.R_base ho0) hb); have n3_ := Aside0.mk (Kd.R_lower (Kd.R_new' ho0 (Kd.R_lt (by (with_reducible repeat (first | apply Kd.R_alloc | apply Kd.R_drewN | apply Kd.R_drew)); exact HO160.out))) (below_size (by repeat (first | (with_reducible first | exact HB.out | apply below_alloc | apply pw_below_drewN | apply below_drew1) | exact HB.out)))); have n4_ := Aside0.mk (below_step (by repeat (first | (with_reducible first | exact HB.out | apply below_alloc | apply pw_below_drewN | apply below_drew1) | exact HB.out)) hb); clear HO_8; clear HO157; clear HO160; clear HB; have HO_8 := n0_; have HO157 := n1_; have HO160 := n2_; have HO163 := n3_; have HB := n4_; clear n0_ n1_ n2_ n3_ n4_; (try clear hb); (try clear hb2); (try clear hk); (try clear hi); (try clear ho0))); go_upto_region 13 with (first | (go_at_call 9; (with_reducible refine (bywashref1_Plan.calls k2 a0 a1 _ _ x8_2 t155 _ ?side1 ?side2 A29.out).mono ?_); (case side1 => repeat (first | exact (Kd.R_reads' HO_8.out).2.2 | (with_reducible refine Kd.C_alloc ?_ _) | (with_reducible refine Kd.C_drewN ?_ _) | (with_reducible refine Kd.C_drew ?_))); (case side2 => exact (Kd.R_reads' HO_8.out).2.1); rintro e w34 ⟨v156, rfl, ho0, hb⟩; have n0_ := Aside0.mk (Kd.R_below (by (with_reducible repeat (first | apply Kd.R_alloc | apply Kd.R_drewN | apply Kd.R_drew)); exact HO_8.out) hb); have n1_ := Aside0.mk (Kd.R_lower ho0 (below_size (by repeat (first | (with_reducible first | exact HB.out | apply below_alloc | apply pw_below_drewN | apply below_drew1) | exact HB.out)))); have n2_ := Aside0.mk (below_step (by repeat (first | (with_reducible first | exact HB.out | apply below_alloc | apply pw_below_drewN | apply below_drew1) | exact HB.out)) hb); clear HO_8; clear HB; have HO_8 := n0_; have HO157 := n1_; have HB := n2_; clear n0_ n1_ n2_; (try clear hb); (try clear hb2); (try clear hk); (try clear hi); (try clear ho0)) | (go_at_call 10; clear tok10_0; (with_reducible refine (pump_Plan.calls k2 a0 a1 _ _ y145 t158 _ ?side1 ?side2 A30.out).mono ?_); (case side1 => repeat (first | exact (Kd.C_below HR148.out HB.out) | (with_reducible refine Kd.C_alloc ?_ _) | (with_reducible refine Kd.C_drewN ?_ _) | (with_reducible refine Kd.C_drew ?_))); (case side2 => exact HC148.out); rintro e w35 ⟨v159, rfl, ho0, hb⟩; have n0_ := Aside0.mk (Kd.R_below (by (with_reducible repeat (first | apply Kd.R_alloc | apply Kd.R_drewN | apply Kd.R_drew)); exact HO_8.out) hb); have n1_ := Aside0.mk (Kd.R_below (by (with_reducible repeat (first | apply Kd.R_alloc | apply Kd.R_drewN | apply Kd.R_drew)); exact HO157.out) hb); have n2_ := Aside0.mk (Kd.R_lower ho0 (below_size (by repeat (first | (with_reducible first | exact HB.out | apply below_alloc | apply pw_below_drewN | apply below_drew1) | exact HB.out)))); have n3_ := Aside0.mk (below_step (by repeat (first | (with_reducible first | exact HB.out | apply below_alloc | apply pw_below_drewN | apply below_drew1) | exact HB.out)) hb); clear HO_8; clear HO157; clear HB; have HO_8 := n0_; have HO157 := n1_; have HO160 := n2_; have HB := n3_; clear n0_ n1_ n2_ n3_; (try clear hb); (try clear hb2); (try clear hk); (try clear hi); (try clear ho0)) | (go_at_call 10; (with_reducible refine (pump_Plan.calls k2 a0 a1 _ _ y145 t161 _ ?side1 ?side2 A31.out).mono ?_); (case side1 => repeat (first | exact (Kd.C_below HR148.out HB.out) | (with_reducible refine Kd.C_alloc ?_ _) | (with_reducible refine Kd.C_drewN ?_ _) | (with_reducible refine Kd.C_drew ?_))); (case side2 => exact HC148.out); rintro e w36 ⟨v162, rfl, ho0, hb⟩; have n0_ := Aside0.mk (Kd.R_below (by (with_reducible repeat (first | apply Kd.R_alloc | apply Kd.R_drewN | apply Kd.R_drew)); exact HO_8.out) hb); have n1_ := Aside0.mk (Kd.R_below (by (with_reducible repeat (first | apply Kd.R_alloc | apply Kd.R_drewN | apply Kd.R_drew)); exact HO157.out) hb); have n2_ := Aside0.mk (Kd.R_elder' (by (with_reducible repeat (first | apply Kd.R_alloc | apply Kd.R_drewN | apply Kd.R_drew)); exact HO160.out) (Kd.R_base ho0) hb); have n3_ := Aside0.mk (Kd.R_lower (Kd.R_new' ho0 (Kd.R_lt (by (with_reducible repeat (first | apply Kd.R_alloc | apply Kd.R_drewN | apply Kd.R_drew)); exact HO160.out))) (below_size (by repeat (first | (with_reducible first | exact HB.out | apply below_alloc | apply pw_below_drewN | apply below_drew1) | exact HB.out)))); have n4_ := Aside0.mk (below_step (by repeat (first | (with_reducible first | exact HB.out | apply below_alloc | apply pw_below_drewN | apply below_drew1) | exact HB.out)) hb); clear HO_8; clear HO157; clear HO160; clear HB; have HO_8 := n0_; have HO157 := n1_; have HO160 := n2_; have HO163 := n3_; have HB := n4_; clear n0_ n1_ n2_ n3_ n4_; (try clear hb); (try clear hb2); (try clear hk); (try clear hi); (try clear ho0))))
                      (try simp only [Act.put, List.setIfInBounds_toArray, List.set_cons_zero, List.set_cons_succ])
                      go_cut [78] (fun v78 wc => ∃ (kq : Nat) (x78_31 : Bool), v78 = .bool x78_31 ∧ Aside0 (bywashlaw16_PumpTells.j2 kq l2 y145 t155 t158 t161 0 x78_31 y142 = some r) ∧ Aside0 (kq ≤ k2) ∧ Aside0 (Kd.R k35 35 wc w.heap.size (fun _ => True) v156 t155) ∧ Aside0 (Kd.R k34 34 wc w.heap.size (fun k_ => some k_ ≠ (v162 : Value).ownBlock) v159 t158) ∧ Aside0 (Kd.R k34 34 wc w.heap.size (fun k_ => some k_ ≠ (v159 : Value).ownBlock) v162 t161) ∧ Aside0 (Below w.heap.size w wc))
                      case first =>
                        have H := HC32.out
                        clear HC32
                        by_cases c37 : (t158.length : Int) = (t155.length : Int)
                        · rw [if_pos c37] at H
                          have c37b0 : ((t158.length : Int) == (t155.length : Int)) = true := beq_iff_eq.mpr c37
                          have c37b1 : ((t158.length : Int) != (t155.length : Int)) = false := bne_eq_false_iff_eq.mpr c37
                          have c37b2 : (t158.length == t155.length) = true := by first | simpa using c37 | (simp at c37 ⊢; omega)
                          clear c37
                          (first | rw [c37b0] | (simp only [i64_w, i32_w]; rw [c37b0]) | skip)
                          have H' := Aside0.mk H
                          clear H
                          obtain ⟨Ao38, co38, eo38⟩ := Kd.R_slice HO160.out
                          subst eo38
                          obtain ⟨Ao39, co39, eo39⟩ := Kd.R_slice HO157.out
                          subst eo39
                          obtain ⟨Ao40, co40, eo40⟩ := Kd.R_slice HO163.out
                          subst eo40
                          go_wp2
                          repeat (go_quiet (fail); try go_wp2)
                          go_meet
                          case rel => exact ⟨_, (((t161.length : Int) != (t155.length : Int))), (by first | rfl | (simp; done) | (simp [*]; done)), H', ⟨by have := HJ3.out; have := HK2.out; first | omega | exact Nat.le_refl _⟩, ⟨by (with_reducible repeat (first | apply Kd.R_alloc | apply Kd.R_drewN | apply Kd.R_drew)); exact HO157.out⟩, ⟨by (with_reducible repeat (first | apply Kd.R_alloc | apply Kd.R_drewN | apply Kd.R_drew)); exact Kd.R_mono HO160.out (fun _ hk => hk.2)⟩, ⟨by (with_reducible repeat (first | apply Kd.R_alloc | apply Kd.R_drewN | apply Kd.R_drew)); exact Kd.R_mono HO163.out (fun _ hk => hk.2)⟩, ⟨by repeat (first | (with_reducible first | exact HB.out | apply below_alloc | apply pw_below_drewN | apply below_drew1) | exact HB.out)⟩⟩
                        · rw [if_neg c37] at H
                          have c37b0 : ((t158.length : Int) == (t155.length : Int)) = false := beq_eq_false_iff_ne.mpr c37
                          have c37b1 : ((t158.length : Int) != (t155.length : Int)) = true := bne_iff_ne.mpr c37
                          have c37b2 : (t158.length == t155.length) = false := by first | simpa using c37 | (simp at c37 ⊢; omega)
                          (first | rw [c37b0] | (simp only [i64_w, i32_w]; rw [c37b0]) | skip)
                          have H' := Aside0.mk H
                          clear H
                          obtain ⟨Ao41, co41, eo41⟩ := Kd.R_slice HO160.out
                          subst eo41
                          obtain ⟨Ao42, co42, eo42⟩ := Kd.R_slice HO157.out
                          subst eo42
                          go_wp2
                          repeat (go_quiet (fail); try go_wp2)
                          go_meet
                          case rel => exact ⟨_, (true), (by first | rfl | (simp; done) | (simp [*]; done)), H', ⟨by have := HJ3.out; have := HK2.out; first | omega | exact Nat.le_refl _⟩, ⟨by (with_reducible repeat (first | apply Kd.R_alloc | apply Kd.R_drewN | apply Kd.R_drew)); exact HO157.out⟩, ⟨by (with_reducible repeat (first | apply Kd.R_alloc | apply Kd.R_drewN | apply Kd.R_drew)); exact Kd.R_mono HO160.out (fun _ hk => hk.2)⟩, ⟨by (with_reducible repeat (first | apply Kd.R_alloc | apply Kd.R_drewN | apply Kd.R_drew)); exact Kd.R_mono HO163.out (fun _ hk => hk.2)⟩, ⟨by repeat (first | (with_reducible first | exact HB.out | apply below_alloc | apply pw_below_drewN | apply below_drew1) | exact HB.out)⟩⟩
                      case rest =>
                        clear HC32
                        try clear c1
                        try clear p1
                        try clear q1
                        try clear hx1
                        try clear c2
                        try clear p2
                        try clear q2
                        try clear c3
                        try clear c6
                        try clear p6
                        try clear c11
                        try clear c14
                        try clear c15
                        try clear p15
                        try clear q15
                        try clear hx15
                        try clear c16
                        try clear c16b0
                        try clear c16b1
                        try clear c17
                        try clear c17b0
                        try clear c17b1
                        try clear q20
                        try clear c22
                        try clear c22b0
                        try clear c23
                        try clear c23b0
                        try clear c24
                        try clear c24b0
                        try clear c25
                        try clear c37
                        try clear c37b0
                        try clear c37b1
                        try clear c37b2
                        try clear hcz27_0
                        try clear hcz27_1
                        try clear hcz27_2
                        try clear hcz27_3
                        try clear hfz27_0
                        try clear hfz27_1
                        try clear hfz27_2
                        try clear hfz27_3
                        try clear hx150_0
                        try clear hx150_1
                        try clear hx150_2
                        try clear hx150_3
                        try clear p150
                        try clear p2
                        try clear q150
                        try clear q2
                        try clear q20
                        obtain ⟨kq, x78_31, rfl, HA, HJ31, HO_11, HO_12, HO_13, HB⟩ := hcut
                        cases kq with
                        | zero => exact absurd HA.out (by simp [bywashlaw16_PumpTells.j2])
                        | succ kj31 =>
                          have H := HA.out
                          clear HA
                          simp only [bywashlaw16_PumpTells.j2] at H
                          by_cases c43 : x78_31 = true
                          · subst c43
                            have H1 : (some false) = some r := by rw [if_pos rfl] at H; exact H
                            clear H
                            have H := H1
                            clear H1
                            obtain rfl := Option.some.inj H
                            go_wp2
                            repeat (go_quiet (fail); try go_wp2)
                            go_ret
                            exact ⟨by first | rfl | (simp [errW_none, errW_some] <;> rfl) | (simp [*, errW_none, errW_some] <;> rfl), below_step HB0.out (by repeat (first | (with_reducible first | exact HB.out | apply below_alloc | apply pw_below_drewN | apply below_drew1) | exact HB.out))⟩
                          · replace c43 := Bool.eq_false_iff.mpr c43
                            subst c43
                            have H1 : (bywashlaw16_PumpTells.l1 kj31 l2 y145 t155 t158 t161 0 (t158.length : Int) 0 y142) = some r := by rw [if_neg (show ¬ (false = true) by decide)] at H; exact H
                            clear H
                            have H := H1
                            clear H1
                            have H' := Aside0.mk H
                            clear H
                            obtain ⟨Ao44, co44, eo44⟩ := Kd.R_slice HO_12.out
                            subst eo44
                            go_wp2
                            repeat (go_quiet (fail); try go_wp2)
                            go_loopg [14, 81] kj31 (fun kq v14 v81 w' => ∃ (x14_4 : Int) (x81_4 : Int), v14 = .int .i64 x14_4 ∧ v81 = .int .i64 x81_4 ∧ Aside0 (bywashlaw16_PumpTells.l1 kq l2 y145 t155 t158 t161 x14_4 (t158.length : Int) x81_4 y142 = some r) ∧ Aside0 (kq ≤ kj31) ∧ Aside0 (Kd.R k35 35 w' w.heap.size (fun _ => True) v156 t155) ∧ Aside0 (Kd.R k34 34 w' w.heap.size (fun k_ => some k_ ≠ (v162 : Value).ownBlock) (.slice Ao44 t158.length co44) t158) ∧ Aside0 (Kd.R k34 34 w' w.heap.size (fun k_ => some k_ ≠ ((.slice Ao44 t158.length co44) : Value).ownBlock) v162 t161) ∧ Aside0 (Below w.heap.size w w'))
                            case atStart => exact ⟨(0), (0), (by first | rfl | (simp; done) | (simp [*]; done)), (by first | rfl | (simp; done) | (simp [*]; done)), H', ⟨Nat.le_refl _⟩, ⟨by (with_reducible repeat (first | apply Kd.R_alloc | apply Kd.R_drewN | apply Kd.R_drew)); exact HO_11.out⟩, ⟨by (with_reducible repeat (first | apply Kd.R_alloc | apply Kd.R_drewN | apply Kd.R_drew)); exact HO_12.out⟩, ⟨by (with_reducible repeat (first | apply Kd.R_alloc | apply Kd.R_drewN | apply Kd.R_drew)); exact HO_13.out⟩, ⟨by repeat (first | (with_reducible first | exact HB.out | apply below_alloc | apply pw_below_drewN | apply below_drew1) | exact HB.out)⟩⟩
                            case round =>
                              clear H'
                              try clear c1
                              try clear p1
                              try clear q1
                              try clear hx1
                              try clear c2
                              try clear p2
                              try clear q2
                              try clear c3
                              try clear c4
                              try clear c6
                              try clear p6
                              try clear c11
                              try clear c14
                              try clear c15
                              try clear p15
                              try clear q15
                              try clear hx15
                              try clear c16
                              try clear c16b0
                              try clear c16b1
                              try clear c17
                              try clear c17b0
                              try clear c17b1
                              try clear q20
                              try clear c22
                              try clear c22b0
                              try clear c23
                              try clear c23b0
                              try clear c24
                              try clear c24b0
                              try clear c25
                              try clear c37
                              try clear c37b0
                              try clear c37b1
                              try clear c37b2
                              try clear c43
                              try clear hcz27_0
                              try clear hcz27_1
                              try clear hcz27_2
                              try clear hcz27_3
                              try clear hfz27_0
                              try clear hfz27_1
                              try clear hfz27_2
                              try clear hfz27_3
                              try clear hx150_0
                              try clear hx150_1
                              try clear hx150_2
                              try clear hx150_3
                              try clear p1
                              try clear p15
                              try clear p150
                              try clear p2
                              try clear p6
                              try clear q1
                              try clear q15
                              try clear q150
                              try clear q2
                              try clear q20
                              obtain ⟨x14_4, x81_4, rfl, rfl, HA, HK4, HO_11, HO_12, HO_13, HB⟩ := hrel
                              cases gk with
                              | zero => exact absurd HA.out (by simp [bywashlaw16_PumpTells.l1])
                              | succ k4 =>
                                have H := HA.out
                                clear HA
                                simp only [bywashlaw16_PumpTells.l1] at H
                                by_cases c45 : x81_4 < (t158.length : Int)
                                · rw [if_pos c45] at H
                                  have c45b0 : decide (x81_4 < (t158.length : Int)) = true := decide_eq_true c45
                                  clear c45
                                  have HC46 := Aside0.mk H
                                  clear H
                                  go_upto_region 18 with (fail)
                                  repeat (go_quiet (fail); go_upto_region 18 with (fail))
                                  go_cut [115] (fun v115 wc => ∃ (kq : Nat) (x115_45 : Bool), v115 = .bool x115_45 ∧ Aside0 (bywashlaw16_PumpTells.j4 kq l2 y145 t155 t158 t161 x14_4 x81_4 (t158.length : Int) x81_4 x115_45 y142 = some r) ∧ Aside0 (kq ≤ k4) ∧ Aside0 (Kd.R k35 35 wc w.heap.size (fun _ => True) v156 t155) ∧ Aside0 (Kd.R k34 34 wc w.heap.size (fun k_ => some k_ ≠ (v162 : Value).ownBlock) (.slice Ao44 t158.length co44) t158) ∧ Aside0 (Kd.R k34 34 wc w.heap.size (fun k_ => some k_ ≠ ((.slice Ao44 t158.length co44) : Value).ownBlock) v162 t161) ∧ Aside0 (Below w.heap.size w wc))
                                  case first =>
                                    have H := HC46.out
                                    clear HC46
                                    by_cases c47 : 0 ≤ x81_4
                                    · rw [if_pos c47] at H
                                      have c47b0 : decide (0 ≤ x81_4) = true := decide_eq_true c47
                                      clear c47
                                      (first | rw [c47b0] | (simp only [i64_w, i32_w]; rw [c47b0]) | skip)
                                      by_cases c48 : x81_4 < (t158.length : Int)
                                      · rw [if_pos c48] at H
                                        have c48b0 : decide (x81_4 < (t158.length : Int)) = true := decide_eq_true c48
                                        clear c48
                                        by_cases c49 : x81_4 < (t155.length : Int)
                                        · rw [if_pos c49] at H
                                          have c49b0 : decide (x81_4 < (t155.length : Int)) = true := decide_eq_true c49
                                          clear c49
                                          by_cases c50 : (!(((rd_T34 t158 x81_4).f0) == ((rd_T35 t155 x81_4).f0)) || (!(((rd_T34 t158 x81_4).f1) == ((rd_T35 t155 x81_4).f1)) || (!(((rd_T34 t158 x81_4).f2) == ((rd_T35 t155 x81_4).f2))))) = true
                                          · rw [if_pos c50] at H
                                            have c50b0 : (!(((rd_T34 t158 x81_4).f0) == ((rd_T35 t155 x81_4).f0)) || (!(((rd_T34 t158 x81_4).f1) == ((rd_T35 t155 x81_4).f1)) || (!(((rd_T34 t158 x81_4).f2) == ((rd_T35 t155 x81_4).f2))))) = true := c50
                                            clear c50
                                            have H' := Aside0.mk H
                                            clear H
                                            have p164 : 0 ≤ (x81_4 : Int) := of_decide_eq_true (by first | (with_reducible assumption) | assumption)
                                            have q164 : x81_4 < (t158.length : Int) := of_decide_eq_true (by first | (with_reducible assumption) | assumption)
                                            obtain ⟨ad164, e164, hx164_0, hx164_1, hx164_2⟩ := at_T34 (Kd.R_reads' HO_12.out).2.2 x81_4 p164 q164
                                            cases e164
                                            replace p164 := eq_true p164
                                            replace q164 := eq_true q164
                                            obtain ⟨Ao51, co51, eo51⟩ := Kd.R_slice HO_11.out
                                            subst eo51
                                            have p165 : 0 ≤ (x81_4 : Int) := of_decide_eq_true (by first | (with_reducible assumption) | assumption)
                                            have q165 : x81_4 < (t155.length : Int) := of_decide_eq_true (by first | (with_reducible assumption) | assumption)
                                            obtain ⟨ad165, e165, hx165_0, hx165_1, hx165_2⟩ := at_T35 (Kd.R_reads' HO_11.out).2.2 x81_4 p165 q165
                                            cases e165
                                            replace p165 := eq_true p165
                                            replace q165 := eq_true q165
                                            have p166 : 0 ≤ (x81_4 : Int) := of_decide_eq_true (by first | (with_reducible assumption) | assumption)
                                            have q166 : x81_4 < (t155.length : Int) := of_decide_eq_true (by first | (with_reducible assumption) | assumption)
                                            obtain ⟨ad166, e166, hx166_0, hx166_1, hx166_2⟩ := at_T35 (Kd.R_reads' HO_11.out).2.2 x81_4 p166 q166
                                            obtain rfl : ad165 = ad166 := (by injection e166)
                                            replace p166 := eq_true p166
                                            replace q166 := eq_true q166
                                            have p167 : 0 ≤ (x81_4 : Int) := of_decide_eq_true (by first | (with_reducible assumption) | assumption)
                                            have q167 : x81_4 < (t155.length : Int) := of_decide_eq_true (by first | (with_reducible assumption) | assumption)
                                            obtain ⟨ad167, e167, hx167_0, hx167_1, hx167_2⟩ := at_T35 (Kd.R_reads' HO_11.out).2.2 x81_4 p167 q167
                                            obtain rfl : ad165 = ad167 := (by injection e167)
                                            replace p167 := eq_true p167
                                            replace q167 := eq_true q167
                                            go_wp2
                                            repeat (go_quiet (fail); try go_wp2)
                                            go_meet
                                            case rel => exact ⟨_, (true), (by first | rfl | (simp; done) | (simp [*]; done)), H', ⟨by have := HJ3.out; have := HK2.out; have := HJ31.out; have := HK4.out; first | omega | exact Nat.le_refl _⟩, ⟨by (with_reducible repeat (first | apply Kd.R_alloc | apply Kd.R_drewN | apply Kd.R_drew)); exact HO_11.out⟩, ⟨by (with_reducible repeat (first | apply Kd.R_alloc | apply Kd.R_drewN | apply Kd.R_drew)); exact HO_12.out⟩, ⟨by (with_reducible repeat (first | apply Kd.R_alloc | apply Kd.R_drewN | apply Kd.R_drew)); exact HO_13.out⟩, ⟨by repeat (first | (with_reducible first | exact HB.out | apply below_alloc | apply pw_below_drewN | apply below_drew1) | exact HB.out)⟩⟩
                                          · rw [if_neg c50] at H
                                            have c50b0 : (!(((rd_T34 t158 x81_4).f0) == ((rd_T35 t155 x81_4).f0)) || (!(((rd_T34 t158 x81_4).f1) == ((rd_T35 t155 x81_4).f1)) || (!(((rd_T34 t158 x81_4).f2) == ((rd_T35 t155 x81_4).f2))))) = false := by simpa using c50
                                            clear c50
                                            by_cases c52 : x81_4 < (t161.length : Int)
                                            · rw [if_pos c52] at H
                                              have c52b0 : decide (x81_4 < (t161.length : Int)) = true := decide_eq_true c52
                                              clear c52
                                              have H' := Aside0.mk H
                                              clear H
                                              have p164 : 0 ≤ (x81_4 : Int) := of_decide_eq_true (by first | (with_reducible assumption) | assumption)
                                              have q164 : x81_4 < (t158.length : Int) := of_decide_eq_true (by first | (with_reducible assumption) | assumption)
                                              obtain ⟨ad164, e164, hx164_0, hx164_1, hx164_2⟩ := at_T34 (Kd.R_reads' HO_12.out).2.2 x81_4 p164 q164
                                              cases e164
                                              replace p164 := eq_true p164
                                              replace q164 := eq_true q164
                                              obtain ⟨Ao53, co53, eo53⟩ := Kd.R_slice HO_11.out
                                              subst eo53
                                              have p165 : 0 ≤ (x81_4 : Int) := of_decide_eq_true (by first | (with_reducible assumption) | assumption)
                                              have q165 : x81_4 < (t155.length : Int) := of_decide_eq_true (by first | (with_reducible assumption) | assumption)
                                              obtain ⟨ad165, e165, hx165_0, hx165_1, hx165_2⟩ := at_T35 (Kd.R_reads' HO_11.out).2.2 x81_4 p165 q165
                                              cases e165
                                              replace p165 := eq_true p165
                                              replace q165 := eq_true q165
                                              have p166 : 0 ≤ (x81_4 : Int) := of_decide_eq_true (by first | (with_reducible assumption) | assumption)
                                              have q166 : x81_4 < (t155.length : Int) := of_decide_eq_true (by first | (with_reducible assumption) | assumption)
                                              obtain ⟨ad166, e166, hx166_0, hx166_1, hx166_2⟩ := at_T35 (Kd.R_reads' HO_11.out).2.2 x81_4 p166 q166
                                              obtain rfl : ad165 = ad166 := (by injection e166)
                                              replace p166 := eq_true p166
                                              replace q166 := eq_true q166
                                              have p167 : 0 ≤ (x81_4 : Int) := of_decide_eq_true (by first | (with_reducible assumption) | assumption)
                                              have q167 : x81_4 < (t155.length : Int) := of_decide_eq_true (by first | (with_reducible assumption) | assumption)
                                              obtain ⟨ad167, e167, hx167_0, hx167_1, hx167_2⟩ := at_T35 (Kd.R_reads' HO_11.out).2.2 x81_4 p167 q167
                                              obtain rfl : ad165 = ad167 := (by injection e167)
                                              replace p167 := eq_true p167
                                              replace q167 := eq_true q167
                                              obtain ⟨Ao54, co54, eo54⟩ := Kd.R_slice HO_13.out
                                              subst eo54
                                              have p168 : 0 ≤ (x81_4 : Int) := of_decide_eq_true (by first | (with_reducible assumption) | assumption)
                                              have q168 : x81_4 < (t161.length : Int) := of_decide_eq_true (by first | (with_reducible assumption) | assumption)
                                              obtain ⟨ad168, e168, hx168_0, hx168_1, hx168_2⟩ := at_T34 (Kd.R_reads' HO_13.out).2.2 x81_4 p168 q168
                                              cases e168
                                              replace p168 := eq_true p168
                                              replace q168 := eq_true q168
                                              have p169 : 0 ≤ (x81_4 : Int) := of_decide_eq_true (by first | (with_reducible assumption) | assumption)
                                              have q169 : x81_4 < (t158.length : Int) := of_decide_eq_true (by first | (with_reducible assumption) | assumption)
                                              obtain ⟨ad169, e169, hx169_0, hx169_1, hx169_2⟩ := at_T34 (Kd.R_reads' HO_12.out).2.2 x81_4 p169 q169
                                              obtain rfl : ad164 = ad169 := (by injection e169)
                                              replace p169 := eq_true p169
                                              replace q169 := eq_true q169
                                              go_wp2
                                              repeat (go_quiet (fail); try go_wp2)
                                              go_meet
                                              case rel => exact ⟨_, ((!(((rd_T34 t161 x81_4).f0) == ((rd_T34 t158 x81_4).f0)) || (!(((rd_T34 t161 x81_4).f1) == ((rd_T34 t158 x81_4).f1)) || (!(((rd_T34 t161 x81_4).f2) == ((rd_T34 t158 x81_4).f2)))))), (by first | rfl | (simp; done) | (simp [*]; done)), H', ⟨by have := HJ3.out; have := HK2.out; have := HJ31.out; have := HK4.out; first | omega | exact Nat.le_refl _⟩, ⟨by (with_reducible repeat (first | apply Kd.R_alloc | apply Kd.R_drewN | apply Kd.R_drew)); exact HO_11.out⟩, ⟨by (with_reducible repeat (first | apply Kd.R_alloc | apply Kd.R_drewN | apply Kd.R_drew)); exact HO_12.out⟩, ⟨by (with_reducible repeat (first | apply Kd.R_alloc | apply Kd.R_drewN | apply Kd.R_drew)); exact HO_13.out⟩, ⟨by repeat (first | (with_reducible first | exact HB.out | apply below_alloc | apply pw_below_drewN | apply below_drew1) | exact HB.out)⟩⟩
                                            · rw [if_neg c52] at H
                                              exact absurd H (by simp)
                                        · rw [if_neg c49] at H
                                          exact absurd H (by simp)
                                      · rw [if_neg c48] at H
                                        exact absurd H (by simp)
                                    · rw [if_neg c47] at H
                                      exact absurd H (by simp)
                                  case rest =>
                                    clear HC46
                                    try clear c1
                                    try clear p1
                                    try clear q1
                                    try clear hx1
                                    try clear c2
                                    try clear p2
                                    try clear q2
                                    try clear c3
                                    try clear c4
                                    try clear c5
                                    try clear c6
                                    try clear p6
                                    try clear c11
                                    try clear c14
                                    try clear c15
                                    try clear p15
                                    try clear q15
                                    try clear hx15
                                    try clear c16
                                    try clear c16b0
                                    try clear c16b1
                                    try clear p16
                                    try clear q16
                                    try clear hx16
                                    try clear c17
                                    try clear c17b0
                                    try clear c17b1
                                    try clear q20
                                    try clear c22
                                    try clear c22b0
                                    try clear c23
                                    try clear c23b0
                                    try clear c24
                                    try clear c24b0
                                    try clear c25
                                    try clear c37
                                    try clear c37b0
                                    try clear c37b1
                                    try clear c37b2
                                    try clear c43
                                    try clear c45
                                    try clear c45b0
                                    try clear c47
                                    try clear c47b0
                                    try clear c48
                                    try clear c48b0
                                    try clear c49
                                    try clear c49b0
                                    try clear c50
                                    try clear c50b0
                                    try clear c52
                                    try clear c52b0
                                    try clear hcz27_0
                                    try clear hcz27_1
                                    try clear hcz27_2
                                    try clear hcz27_3
                                    try clear hfz27_0
                                    try clear hfz27_1
                                    try clear hfz27_2
                                    try clear hfz27_3
                                    try clear hx150_0
                                    try clear hx150_1
                                    try clear hx150_2
                                    try clear hx150_3
                                    try clear hx164_0
                                    try clear hx164_1
                                    try clear hx164_2
                                    try clear hx165_0
                                    try clear hx165_1
                                    try clear hx165_2
                                    try clear hx166_0
                                    try clear hx166_1
                                    try clear hx166_2
                                    try clear hx167_0
                                    try clear hx167_1
                                    try clear hx167_2
                                    try clear hx168_0
                                    try clear hx168_1
                                    try clear hx168_2
                                    try clear hx169_0
                                    try clear hx169_1
                                    try clear hx169_2
                                    try clear p1
                                    try clear p15
                                    try clear p150
                                    try clear p164
                                    try clear p165
                                    try clear p166
                                    try clear p167
                                    try clear p168
                                    try clear p169
                                    try clear p2
                                    try clear p6
                                    try clear q1
                                    try clear q15
                                    try clear q150
                                    try clear q164
                                    try clear q165
                                    try clear q166
                                    try clear q167
                                    try clear q168
                                    try clear q169
                                    try clear q2
                                    try clear q20
                                    obtain ⟨kq, x115_45, rfl, HA, HJ45, HO_11, HO_12, HO_13, HB⟩ := hcut
                                    cases kq with
                                    | zero => exact absurd HA.out (by simp [bywashlaw16_PumpTells.j4])
                                    | succ kj45 =>
                                      have H := HA.out
                                      clear HA
                                      simp only [bywashlaw16_PumpTells.j4] at H
                                      by_cases c55 : x115_45 = true
                                      · subst c55
                                        have H1 : (some false) = some r := by rw [if_pos rfl] at H; exact H
                                        clear H
                                        have H := H1
                                        clear H1
                                        obtain rfl := Option.some.inj H
                                        go_wp2
                                        repeat (go_quiet (fail); try go_wp2)
                                        go_ret
                                        exact ⟨by first | rfl | (simp [errW_none, errW_some] <;> rfl) | (simp [*, errW_none, errW_some] <;> rfl), below_step HB0.out (by repeat (first | (with_reducible first | exact HB.out | apply below_alloc | apply pw_below_drewN | apply below_drew1) | exact HB.out))⟩
                                      · replace c55 := Bool.eq_false_iff.mpr c55
                                        subst c55
                                        have H1 : (if 0 ≤ x81_4 then (if x81_4 < (t158.length : Int) then (bywashlaw16_PumpTells.l1 kj45 l2 y145 t155 t158 t161 (wrap64 (x14_4 + ((rd_T34 t158 x81_4).f1))) (t158.length : Int) (wrap64 (x81_4 + 1)) y142) else (none)) else (none)) = some r := by rw [if_neg (show ¬ (false = true) by decide)] at H; exact H
                                        clear H
                                        have H := H1
                                        clear H1
                                        by_cases c56 : 0 ≤ x81_4
                                        · rw [if_pos c56] at H
                                          have c56b0 : decide (0 ≤ x81_4) = true := decide_eq_true c56
                                          clear c56
                                          by_cases c57 : x81_4 < (t158.length : Int)
                                          · rw [if_pos c57] at H
                                            have c57b0 : decide (x81_4 < (t158.length : Int)) = true := decide_eq_true c57
                                            clear c57
                                            have H' := Aside0.mk H
                                            clear H
                                            have p170 : 0 ≤ (x81_4 : Int) := of_decide_eq_true (by first | (with_reducible assumption) | assumption)
                                            have q170 : x81_4 < (t158.length : Int) := of_decide_eq_true (by first | (with_reducible assumption) | assumption)
                                            obtain ⟨ad170, e170, hx170_0, hx170_1, hx170_2⟩ := at_T34 (Kd.R_reads' HO_12.out).2.2 x81_4 p170 q170
                                            cases e170
                                            replace p170 := eq_true p170
                                            replace q170 := eq_true q170
                                            go_wp2
                                            repeat (go_quiet (fail); try go_wp2)
                                            go_roundg kj45
                                            case measure => have := HJ3.out; have := HK2.out; have := HJ31.out; have := HK4.out; have := HJ45.out; omega
                                            case rel => exact ⟨(wrap64 (x14_4 + ((rd_T34 t158 x81_4).f1))), (wrap64 (x81_4 + 1)), (by first | rfl | (simp; done) | (simp [*]; done)), (by first | rfl | (simp; done) | (simp [*]; done)), H', ⟨by have := HJ3.out; have := HK2.out; have := HJ31.out; have := HK4.out; have := HJ45.out; omega⟩, ⟨by (with_reducible repeat (first | apply Kd.R_alloc | apply Kd.R_drewN | apply Kd.R_drew)); exact HO_11.out⟩, ⟨by (with_reducible repeat (first | apply Kd.R_alloc | apply Kd.R_drewN | apply Kd.R_drew)); exact HO_12.out⟩, ⟨by (with_reducible repeat (first | apply Kd.R_alloc | apply Kd.R_drewN | apply Kd.R_drew)); exact HO_13.out⟩, ⟨by repeat (first | (with_reducible first | exact HB.out | apply below_alloc | apply pw_below_drewN | apply below_drew1) | exact HB.out)⟩⟩
                                          · rw [if_neg c57] at H
                                            exact absurd H (by simp)
                                        · rw [if_neg c56] at H
                                          exact absurd H (by simp)
                                · rw [if_neg c45] at H
                                  have c45b0 : decide (x81_4 < (t158.length : Int)) = false := decide_eq_false c45
                                  clear c45
                                  replace H := Option.bind_eq_some_iff.mp H
                                  obtain ⟨t171, A580, H⟩ := H
                                  replace H : (if t171 = x14_4 then (bywashlaw16_PumpTells.l2 k4 l2 y145 t155 t158 t161 (t158.length : Int) 0 y142) else (some false)) = some r := H
                                  have A58 := Aside0.mk A580
                                  clear A580
                                  by_cases c59 : t171 = x14_4
                                  · rw [if_pos c59] at H
                                    have c59b0 : (t171 == x14_4) = true := beq_iff_eq.mpr c59
                                    have c59b1 : (t171 != x14_4) = false := bne_eq_false_iff_eq.mpr c59
                                    clear c59
                                    have H' := Aside0.mk H
                                    clear H
                                    go_wp2_with (first | (go_at_call 11; (with_reducible refine (pump_Sum.calls k4 _ _ t158 t171 _ ?side1 ?side2 A58.out).mono ?_); (case side1 => repeat (first | exact (Kd.R_reads' HO_12.out).2.2 | (with_reducible refine Kd.C_alloc ?_ _) | (with_reducible refine Kd.C_drewN ?_ _) | (with_reducible refine Kd.C_drew ?_))); (case side2 => exact (Kd.R_reads' HO_12.out).2.1); rintro e w60 ⟨rfl, hb⟩; have n0_ := Aside0.mk (Kd.R_below (by (with_reducible repeat (first | apply Kd.R_alloc | apply Kd.R_drewN | apply Kd.R_drew)); exact HO_11.out) hb); have n1_ := Aside0.mk (Kd.R_below (by (with_reducible repeat (first | apply Kd.R_alloc | apply Kd.R_drewN | apply Kd.R_drew)); exact HO_12.out) hb); have n2_ := Aside0.mk (Kd.R_below (by (with_reducible repeat (first | apply Kd.R_alloc | apply Kd.R_drewN | apply Kd.R_drew)); exact HO_13.out) hb); have n3_ := Aside0.mk (below_step (by repeat (first | (with_reducible first | exact HB.out | apply below_alloc | apply pw_below_drewN | apply below_drew1) | exact HB.out)) hb); clear HO_11; clear HO_12; clear HO_13; clear HB; have HO_11 := n0_; have HO_12 := n1_; have HO_13 := n2_; have HB := n3_; clear n0_ n1_ n2_ n3_; (try clear hb); (try clear hb2); (try clear hk); (try clear hi)))
                                    repeat (go_quiet (first | (go_at_call 11; (with_reducible refine (pump_Sum.calls k4 _ _ t158 t171 _ ?side1 ?side2 A58.out).mono ?_); (case side1 => repeat (first | exact (Kd.R_reads' HO_12.out).2.2 | (with_reducible refine Kd.C_alloc ?_ _) | (with_reducible refine Kd.C_drewN ?_ _) | (with_reducible refine Kd.C_drew ?_))); (case side2 => exact (Kd.R_reads' HO_12.out).2.1); rintro e w60 ⟨rfl, hb⟩; have n0_ := Aside0.mk (Kd.R_below (by (with_reducible repeat (first | apply Kd.R_alloc | apply Kd.R_drewN | apply Kd.R_drew)); exact HO_11.out) hb); have n1_ := Aside0.mk (Kd.R_below (by (with_reducible repeat (first | apply Kd.R_alloc | apply Kd.R_drewN | apply Kd.R_drew)); exact HO_12.out) hb); have n2_ := Aside0.mk (Kd.R_below (by (with_reducible repeat (first | apply Kd.R_alloc | apply Kd.R_drewN | apply Kd.R_drew)); exact HO_13.out) hb); have n3_ := Aside0.mk (below_step (by repeat (first | (with_reducible first | exact HB.out | apply below_alloc | apply pw_below_drewN | apply below_drew1) | exact HB.out)) hb); clear HO_11; clear HO_12; clear HO_13; clear HB; have HO_11 := n0_; have HO_12 := n1_; have HO_13 := n2_; have HB := n3_; clear n0_ n1_ n2_ n3_; (try clear hb); (try clear hb2); (try clear hk); (try clear hi))); try go_wp2_with (first | (go_at_call 11; (with_reducible refine (pump_Sum.calls k4 _ _ t158 t171 _ ?side1 ?side2 A58.out).mono ?_); (case side1 => repeat (first | exact (Kd.R_reads' HO_12.out).2.2 | (with_reducible refine Kd.C_alloc ?_ _) | (with_reducible refine Kd.C_drewN ?_ _) | (with_reducible refine Kd.C_drew ?_))); (case side2 => exact (Kd.R_reads' HO_12.out).2.1); rintro e w60 ⟨rfl, hb⟩; have n0_ := Aside0.mk (Kd.R_below (by (with_reducible repeat (first | apply Kd.R_alloc | apply Kd.R_drewN | apply Kd.R_drew)); exact HO_11.out) hb); have n1_ := Aside0.mk (Kd.R_below (by (with_reducible repeat (first | apply Kd.R_alloc | apply Kd.R_drewN | apply Kd.R_drew)); exact HO_12.out) hb); have n2_ := Aside0.mk (Kd.R_below (by (with_reducible repeat (first | apply Kd.R_alloc | apply Kd.R_drewN | apply Kd.R_drew)); exact HO_13.out) hb); have n3_ := Aside0.mk (below_step (by repeat (first | (with_reducible first | exact HB.out | apply below_alloc | apply pw_below_drewN | apply below_drew1) | exact HB.out)) hb); clear HO_11; clear HO_12; clear HO_13; clear HB; have HO_11 := n0_; have HO_12 := n1_; have HO_13 := n2_; have HB := n3_; clear n0_ n1_ n2_ n3_; (try clear hb); (try clear hb2); (try clear hk); (try clear hi))))
                                    go_loopg [130] k4 (fun kq v130 w' => ∃ (x12_5 : List (S34)) (x130_5 : Int), v130 = .int .i64 x130_5 ∧ Aside0 (bywashlaw16_PumpTells.l2 kq l2 y145 t155 x12_5 t161 (t158.length : Int) x130_5 y142 = some r) ∧ Aside0 (kq ≤ k4) ∧ Aside0 (Kd.R k35 35 w' w.heap.size (fun _ => True) v156 t155) ∧ Aside0 (Kd.R k34 34 w' w.heap.size (fun k_ => some k_ ≠ (v162 : Value).ownBlock) (.slice Ao44 t158.length co44) x12_5) ∧ Aside0 (Kd.R k34 34 w' w.heap.size (fun k_ => some k_ ≠ ((.slice Ao44 t158.length co44) : Value).ownBlock) v162 t161) ∧ Aside0 (Below w.heap.size w w'))
                                    case atStart => exact ⟨(t158), (0), (by first | rfl | (simp; done) | (simp [*]; done)), H', ⟨Nat.le_refl _⟩, ⟨by (with_reducible repeat (first | apply Kd.R_alloc | apply Kd.R_drewN | apply Kd.R_drew)); exact HO_11.out⟩, ⟨by (with_reducible repeat (first | apply Kd.R_alloc | apply Kd.R_drewN | apply Kd.R_drew)); exact HO_12.out⟩, ⟨by (with_reducible repeat (first | apply Kd.R_alloc | apply Kd.R_drewN | apply Kd.R_drew)); exact HO_13.out⟩, ⟨by repeat (first | (with_reducible first | exact HB.out | apply below_alloc | apply pw_below_drewN | apply below_drew1) | exact HB.out)⟩⟩
                                    case round =>
                                      clear H'
                                      try clear c1
                                      try clear p1
                                      try clear q1
                                      try clear hx1
                                      try clear c2
                                      try clear p2
                                      try clear q2
                                      try clear c3
                                      try clear c4
                                      try clear c5
                                      try clear c6
                                      try clear p6
                                      try clear c11
                                      try clear c14
                                      try clear c15
                                      try clear p15
                                      try clear q15
                                      try clear hx15
                                      try clear c16
                                      try clear c16b0
                                      try clear c16b1
                                      try clear p16
                                      try clear q16
                                      try clear hx16
                                      try clear c17
                                      try clear c17b0
                                      try clear c17b1
                                      try clear p17
                                      try clear q17
                                      try clear hx17
                                      try clear q20
                                      try clear c22
                                      try clear c22b0
                                      try clear c23
                                      try clear c23b0
                                      try clear c24
                                      try clear c24b0
                                      try clear c25
                                      try clear c37
                                      try clear c37b0
                                      try clear c37b1
                                      try clear c37b2
                                      try clear c43
                                      try clear c45
                                      try clear c45b0
                                      try clear c47
                                      try clear c47b0
                                      try clear c48
                                      try clear c48b0
                                      try clear c49
                                      try clear c49b0
                                      try clear c50
                                      try clear c50b0
                                      try clear c52
                                      try clear c52b0
                                      try clear c55
                                      try clear c56
                                      try clear c56b0
                                      try clear c57
                                      try clear c57b0
                                      try clear c59
                                      try clear c59b0
                                      try clear c59b1
                                      try clear hcz27_0
                                      try clear hcz27_1
                                      try clear hcz27_2
                                      try clear hcz27_3
                                      try clear hfz27_0
                                      try clear hfz27_1
                                      try clear hfz27_2
                                      try clear hfz27_3
                                      try clear hx150_0
                                      try clear hx150_1
                                      try clear hx150_2
                                      try clear hx150_3
                                      try clear hx164_0
                                      try clear hx164_1
                                      try clear hx164_2
                                      try clear hx165_0
                                      try clear hx165_1
                                      try clear hx165_2
                                      try clear hx166_0
                                      try clear hx166_1
                                      try clear hx166_2
                                      try clear hx167_0
                                      try clear hx167_1
                                      try clear hx167_2
                                      try clear hx168_0
                                      try clear hx168_1
                                      try clear hx168_2
                                      try clear hx169_0
                                      try clear hx169_1
                                      try clear hx169_2
                                      try clear hx170_0
                                      try clear hx170_1
                                      try clear hx170_2
                                      try clear p1
                                      try clear p15
                                      try clear p150
                                      try clear p16
                                      try clear p164
                                      try clear p165
                                      try clear p166
                                      try clear p167
                                      try clear p168
                                      try clear p169
                                      try clear p170
                                      try clear p2
                                      try clear p6
                                      try clear q1
                                      try clear q15
                                      try clear q150
                                      try clear q16
                                      try clear q164
                                      try clear q165
                                      try clear q166
                                      try clear q167
                                      try clear q168
                                      try clear q169
                                      try clear q170
                                      try clear q2
                                      try clear q20
                                      obtain ⟨x12_5, x130_5, rfl, HA, HK5, HO_11, HO_12, HO_13, HB⟩ := hrel
                                      have hl12_5 := (Kd.R_reads' HO_12.out).1
                                      rw [hl12_5] at HO_12
                                      (try simp only [hl12_5])
                                      (try simp only [hl12_5] at HO_11)
                                      (try simp only [hl12_5] at HO_13)
                                      cases gk with
                                      | zero => exact absurd HA.out (by simp [bywashlaw16_PumpTells.l2])
                                      | succ k5 =>
                                        have H := HA.out
                                        clear HA
                                        simp only [bywashlaw16_PumpTells.l2] at H
                                        by_cases c61 : x130_5 < (t158.length : Int)
                                        · rw [if_pos c61] at H
                                          have c61b0 : decide (x130_5 < (t158.length : Int)) = true := decide_eq_true c61
                                          try have c61l : decide (x130_5 < (x12_5.length : Int)) = true := by first | (rw [hl12_5]; exact c61b0) | (rw [← hl12_5]; exact c61b0)
                                          clear c61
                                          by_cases c62 : 0 ≤ x130_5
                                          · rw [if_pos c62] at H
                                            have c62b0 : decide (0 ≤ x130_5) = true := decide_eq_true c62
                                            clear c62
                                            by_cases c63 : x130_5 < (x12_5.length : Int)
                                            · rw [if_pos c63] at H
                                              have c63b0 : decide (x130_5 < (x12_5.length : Int)) = true := decide_eq_true c63
                                              try have c63l : decide (x130_5 < (x12_5.length : Int)) = true := by first | (rw [hl12_5]; exact c63b0) | (rw [← hl12_5]; exact c63b0)
                                              clear c63
                                              obtain ⟨y172, hy172⟩ : ∃ y_ : List (S34), y_ = (x12_5.set (x130_5 : Int).toNat (⟨(rd_T34 x12_5 x130_5).f0, (-5), (rd_T34 x12_5 x130_5).f2⟩ : S34)) := ⟨_, rfl⟩
                                              replace H : (bywashlaw16_PumpTells.l2 k5 l2 y145 t155 y172 t161 (t158.length : Int) (wrap64 (x130_5 + 1)) y142) = some r := by first | (rw [hy172]; with_reducible exact H) | (have H2_ := (Option.bind_some _ _).symm.trans H; rw [hy172]; with_reducible exact H2_) | (have H2_ := (Option.bind_some _ _).symm.trans H; with_reducible exact H2_) | with_reducible exact H | (rw [hy172]; exact H) | exact H
                                              have Ny172 := Aside0.mk hy172
                                              clear hy172
                                              have H' := Aside0.mk H
                                              clear H
                                              have p64 : 0 ≤ (x130_5 : Int) := of_decide_eq_true (by first | (with_reducible assumption) | assumption)
                                              have q64 : (x130_5 : Int) < ((x12_5.length : Int) : Int) := of_decide_eq_true (by first | (with_reducible assumption) | assumption)
                                              obtain ⟨go64, co64, eo64, gb64, gl64, cl64, HG64⟩ := Kd.R_form HO_12.out (by omega)
                                              (first | cases eo64 | (injection eo64 with ea_ en_ ec_; (first | subst ea_ | (injection ea_ with ea_; subst ea_)); subst ec_; clear en_))
                                              have GB64 := Aside0.mk gb64
                                              have GG64 := Aside0.mk HG64
                                              clear gb64 gl64 HG64
                                              obtain ⟨ce64, hcl64, hM64, hcc64, hfr64⟩ := Kd.R_elem HO_12.out z34 (x130_5 : Int) p64 q64
                                              obtain rfl := k34_openM hM64
                                              have hx64_0 : wr.cell? ⟨go64, (x130_5 : Int).toNat * 3, none⟩ = some (.int .i64 ((rd_T34 x12_5 x130_5).f0)) := hcc64 0 _ rfl
                                              have hx64_1 : wr.cell? ⟨go64, (x130_5 : Int).toNat * 3 + 1, none⟩ = some (.int .i64 ((rd_T34 x12_5 x130_5).f1)) := hcc64 1 _ rfl
                                              have hx64_2 : wr.cell? ⟨go64, (x130_5 : Int).toNat * 3 + 2, none⟩ = some (.bool ((rd_T34 x12_5 x130_5).f2)) := hcc64 2 _ rfl
                                              have hf64_0 : wr.frozen? ⟨go64, (x130_5 : Int).toNat * 3, none⟩ = false := hfr64 0
                                              have hf64_1 : wr.frozen? ⟨go64, (x130_5 : Int).toNat * 3 + 1, none⟩ = false := hfr64 1
                                              have hf64_2 : wr.frozen? ⟨go64, (x130_5 : Int).toNat * 3 + 2, none⟩ = false := hfr64 2
                                              clear hcl64 hcc64 hfr64 hM64
                                              replace p64 := eq_true p64
                                              replace q64 := eq_true q64
                                              have HX65 := Aside0.mk (show Kd.R k34 34 wr w.heap.size (fun k_ => some k_ ≠ (v162 : Value).ownBlock) (.slice (some ⟨go64, 0, none⟩) x12_5.length co44) x12_5 from (by (with_reducible repeat (first | apply Kd.R_alloc | apply Kd.R_drewN | apply Kd.R_drew)); exact HO_12.out))
                                              obtain ⟨ce65, hcl65, hM65, hcc65, hfr65⟩ := Kd.R_elem HX65.out z34 (x130_5 : Int) (of_decide_eq_true (by first | (with_reducible assumption) | assumption)) (by have h_ : (x130_5 : Int) < ((x12_5.length : Int) : Int) := of_decide_eq_true (by first | (with_reducible assumption) | assumption); first | exact h_ | (have e_ := (Kd.R_reads' HO_12.out).1; omega) | simpa using h_)
                                              obtain rfl := k34_openM hM65
                                              have HP65 := Kd.R_seg HX65.out (x130_5 : Int) (of_decide_eq_true (by first | (with_reducible assumption) | assumption)) (by have h_ : (x130_5 : Int) < ((x12_5.length : Int) : Int) := of_decide_eq_true (by first | (with_reducible assumption) | assumption); first | exact h_ | (have e_ := (Kd.R_reads' HO_12.out).1; omega) | simpa using h_) (seg := [.int .i64 (-5)]) (j := 1) hcl65 hcc65 (show 2 ≤ 3 from by decide) (x' := (⟨(rd_T34 x12_5 x130_5).f0, (-5), (rd_T34 x12_5 x130_5).f2⟩ : S34)) (k34_mkM _ _ _ (⟨(rd_T34 x12_5 x130_5).f0, (-5), (rd_T34 x12_5 x130_5).f2⟩ : S34) ) (fun _ hk => hk)
                                              have hx65_1 := hcc65 1 _ rfl
                                              (try simp only [show (k34).sz = 3 from rfl, Nat.mul_one, Nat.add_zero] at hx65_1)
                                              have hf65_1 := hfr65 1
                                              (try simp only [show (k34).sz = 3 from rfl, Nat.mul_one, Nat.add_zero] at hf65_1)
                                              clear hcl65 hcc65 hfr65 hM65
                                              go_wp2_with (first | ((with_reducible refine gate_store (t := 3) (p := 136) rfl ?_); (try (rw [drewN_self wr]; generalize hq_ : World.drewN wr _ = wr; have n0_ := Aside0.mk (Kd.R_at hq_ HO_11.out); have n1_ := Aside0.mk (Kd.R_at hq_ HO_12.out); have n2_ := Aside0.mk (Kd.R_at hq_ HO_13.out); have n3_ := Aside0.mk (below_at hq_ HB.out); clear hq_ HO_11 HO_12 HO_13 HB; have HO_11 := n0_; have HO_12 := n1_; have HO_13 := n2_; have HB := n3_; clear n0_ n1_ n2_ n3_; (try (have HX65 := Aside0.mk (show Kd.R k34 34 wr w.heap.size (fun k_ => some k_ ≠ (v162 : Value).ownBlock) (.slice (some ⟨go64, 0, none⟩) x12_5.length co44) x12_5 from (by (with_reducible repeat (first | apply Kd.R_alloc | apply Kd.R_drewN | apply Kd.R_drew)); exact HO_12.out)))); (try (obtain ⟨ce65, hcl65, hM65, hcc65, hfr65⟩ := Kd.R_elem HX65.out z34 (x130_5 : Int) (of_decide_eq_true (by first | (with_reducible assumption) | assumption)) (by have h_ : (x130_5 : Int) < ((x12_5.length : Int) : Int) := of_decide_eq_true (by first | (with_reducible assumption) | assumption); first | exact h_ | (have e_ := (Kd.R_reads' HO_12.out).1; omega) | simpa using h_))); (try (obtain rfl := k34_openM hM65)); (try (have HP65 := Kd.R_seg HX65.out (x130_5 : Int) (of_decide_eq_true (by first | (with_reducible assumption) | assumption)) (by have h_ : (x130_5 : Int) < ((x12_5.length : Int) : Int) := of_decide_eq_true (by first | (with_reducible assumption) | assumption); first | exact h_ | (have e_ := (Kd.R_reads' HO_12.out).1; omega) | simpa using h_) (seg := [.int .i64 (-5)]) (j := 1) hcl65 hcc65 (show 2 ≤ 3 from by decide) (x' := (⟨(rd_T34 x12_5 x130_5).f0, (-5), (rd_T34 x12_5 x130_5).f2⟩ : S34)) (k34_mkM _ _ _ (⟨(rd_T34 x12_5 x130_5).f0, (-5), (rd_T34 x12_5 x130_5).f2⟩ : S34) ) (fun _ hk => hk))); (try (have hx65_1 := hcc65 1 _ rfl)); (try (try simp only [show (k34).sz = 3 from rfl, Nat.mul_one, Nat.add_zero] at hx65_1)); (try (have hf65_1 := hfr65 1)); (try (try simp only [show (k34).sz = 3 from rfl, Nat.mul_one, Nat.add_zero] at hf65_1)); (try (clear hcl65 hcc65 hfr65 hM65)))); refine store_event (t := 3) (p := 136) (v := ?vo_w66) (w1 := (wr.setCell ⟨go64, (x130_5 : Int).toNat * 3 + 1, none⟩ (.int .i64 (-5)))) ?hg ?ho ?hn ?hr ?_; (case ho => rfl); (case hg => rfl); (case hn => rfl); (case hr => first | (go_simp; done) | (go_simp; rfl)); intro w66 hw; have hg : wr.grownBy w66 (some go64) := (by rw [hw]; exact HP65.2); have hp_ : Kd.R k34 34 w66 w.heap.size (fun k_ => some k_ ≠ (v162 : Value).ownBlock) (.slice (some ⟨go64, 0, none⟩) x12_5.length co44) y172 := (by rw [hw, Ny172.out]; exact HP65.1); clear HP65; have n0_ := Aside0.mk (Kd.R_over' (v := (.slice (some ⟨go64, 0, none⟩) x12_5.length co44)) (by (with_reducible repeat (first | apply Kd.R_alloc | apply Kd.R_drewN | apply Kd.R_drew)); exact HO_11.out) (Kd.R_typed HO_12.out) (by decide) hg); have n1_ := Aside0.mk (hp_); have n2_ := Aside0.mk (Kd.R_after (v := (.slice (some ⟨go64, 0, none⟩) x12_5.length co44)) (v1 := (.slice (some ⟨go64, 0, none⟩) x12_5.length co44)) (ok := (fun _ => True)) (by (with_reducible repeat (first | apply Kd.R_alloc | apply Kd.R_drewN | apply Kd.R_drew)); exact Kd.R_mono HO_13.out (fun _ hk => ⟨trivial, hk⟩)) hg (.inl rfl)); have n3_ := Aside0.mk ((by rw [hw]; exact below_set (HB.out) GB64.out : Below w.heap.size w w66)); clear HO_11; clear HO_12; clear HO_13; clear HB; have HO_11 := n0_; have HO_12 := n1_; have HO_13 := n2_; have HB := n3_; clear n0_ n1_ n2_ n3_; clear hg hw hp_))
                                              repeat (go_quiet (first | ((with_reducible refine gate_store (t := 3) (p := 136) rfl ?_); (try (rw [drewN_self wr]; generalize hq_ : World.drewN wr _ = wr; have n0_ := Aside0.mk (Kd.R_at hq_ HO_11.out); have n1_ := Aside0.mk (Kd.R_at hq_ HO_12.out); have n2_ := Aside0.mk (Kd.R_at hq_ HO_13.out); have n3_ := Aside0.mk (below_at hq_ HB.out); clear hq_ HO_11 HO_12 HO_13 HB; have HO_11 := n0_; have HO_12 := n1_; have HO_13 := n2_; have HB := n3_; clear n0_ n1_ n2_ n3_; (try (have HX65 := Aside0.mk (show Kd.R k34 34 wr w.heap.size (fun k_ => some k_ ≠ (v162 : Value).ownBlock) (.slice (some ⟨go64, 0, none⟩) x12_5.length co44) x12_5 from (by (with_reducible repeat (first | apply Kd.R_alloc | apply Kd.R_drewN | apply Kd.R_drew)); exact HO_12.out)))); (try (obtain ⟨ce65, hcl65, hM65, hcc65, hfr65⟩ := Kd.R_elem HX65.out z34 (x130_5 : Int) (of_decide_eq_true (by first | (with_reducible assumption) | assumption)) (by have h_ : (x130_5 : Int) < ((x12_5.length : Int) : Int) := of_decide_eq_true (by first | (with_reducible assumption) | assumption); first | exact h_ | (have e_ := (Kd.R_reads' HO_12.out).1; omega) | simpa using h_))); (try (obtain rfl := k34_openM hM65)); (try (have HP65 := Kd.R_seg HX65.out (x130_5 : Int) (of_decide_eq_true (by first | (with_reducible assumption) | assumption)) (by have h_ : (x130_5 : Int) < ((x12_5.length : Int) : Int) := of_decide_eq_true (by first | (with_reducible assumption) | assumption); first | exact h_ | (have e_ := (Kd.R_reads' HO_12.out).1; omega) | simpa using h_) (seg := [.int .i64 (-5)]) (j := 1) hcl65 hcc65 (show 2 ≤ 3 from by decide) (x' := (⟨(rd_T34 x12_5 x130_5).f0, (-5), (rd_T34 x12_5 x130_5).f2⟩ : S34)) (k34_mkM _ _ _ (⟨(rd_T34 x12_5 x130_5).f0, (-5), (rd_T34 x12_5 x130_5).f2⟩ : S34) ) (fun _ hk => hk))); (try (have hx65_1 := hcc65 1 _ rfl)); (try (try simp only [show (k34).sz = 3 from rfl, Nat.mul_one, Nat.add_zero] at hx65_1)); (try (have hf65_1 := hfr65 1)); (try (try simp only [show (k34).sz = 3 from rfl, Nat.mul_one, Nat.add_zero] at hf65_1)); (try (clear hcl65 hcc65 hfr65 hM65)))); refine store_event (t := 3) (p := 136) (v := ?vo_w66) (w1 := (wr.setCell ⟨go64, (x130_5 : Int).toNat * 3 + 1, none⟩ (.int .i64 (-5)))) ?hg ?ho ?hn ?hr ?_; (case ho => rfl); (case hg => rfl); (case hn => rfl); (case hr => first | (go_simp; done) | (go_simp; rfl)); intro w66 hw; have hg : wr.grownBy w66 (some go64) := (by rw [hw]; exact HP65.2); have hp_ : Kd.R k34 34 w66 w.heap.size (fun k_ => some k_ ≠ (v162 : Value).ownBlock) (.slice (some ⟨go64, 0, none⟩) x12_5.length co44) y172 := (by rw [hw, Ny172.out]; exact HP65.1); clear HP65; have n0_ := Aside0.mk (Kd.R_over' (v := (.slice (some ⟨go64, 0, none⟩) x12_5.length co44)) (by (with_reducible repeat (first | apply Kd.R_alloc | apply Kd.R_drewN | apply Kd.R_drew)); exact HO_11.out) (Kd.R_typed HO_12.out) (by decide) hg); have n1_ := Aside0.mk (hp_); have n2_ := Aside0.mk (Kd.R_after (v := (.slice (some ⟨go64, 0, none⟩) x12_5.length co44)) (v1 := (.slice (some ⟨go64, 0, none⟩) x12_5.length co44)) (ok := (fun _ => True)) (by (with_reducible repeat (first | apply Kd.R_alloc | apply Kd.R_drewN | apply Kd.R_drew)); exact Kd.R_mono HO_13.out (fun _ hk => ⟨trivial, hk⟩)) hg (.inl rfl)); have n3_ := Aside0.mk ((by rw [hw]; exact below_set (HB.out) GB64.out : Below w.heap.size w w66)); clear HO_11; clear HO_12; clear HO_13; clear HB; have HO_11 := n0_; have HO_12 := n1_; have HO_13 := n2_; have HB := n3_; clear n0_ n1_ n2_ n3_; clear hg hw hp_)); try go_wp2_with (first | ((with_reducible refine gate_store (t := 3) (p := 136) rfl ?_); (try (rw [drewN_self wr]; generalize hq_ : World.drewN wr _ = wr; have n0_ := Aside0.mk (Kd.R_at hq_ HO_11.out); have n1_ := Aside0.mk (Kd.R_at hq_ HO_12.out); have n2_ := Aside0.mk (Kd.R_at hq_ HO_13.out); have n3_ := Aside0.mk (below_at hq_ HB.out); clear hq_ HO_11 HO_12 HO_13 HB; have HO_11 := n0_; have HO_12 := n1_; have HO_13 := n2_; have HB := n3_; clear n0_ n1_ n2_ n3_; (try (have HX65 := Aside0.mk (show Kd.R k34 34 wr w.heap.size (fun k_ => some k_ ≠ (v162 : Value).ownBlock) (.slice (some ⟨go64, 0, none⟩) x12_5.length co44) x12_5 from (by (with_reducible repeat (first | apply Kd.R_alloc | apply Kd.R_drewN | apply Kd.R_drew)); exact HO_12.out)))); (try (obtain ⟨ce65, hcl65, hM65, hcc65, hfr65⟩ := Kd.R_elem HX65.out z34 (x130_5 : Int) (of_decide_eq_true (by first | (with_reducible assumption) | assumption)) (by have h_ : (x130_5 : Int) < ((x12_5.length : Int) : Int) := of_decide_eq_true (by first | (with_reducible assumption) | assumption); first | exact h_ | (have e_ := (Kd.R_reads' HO_12.out).1; omega) | simpa using h_))); (try (obtain rfl := k34_openM hM65)); (try (have HP65 := Kd.R_seg HX65.out (x130_5 : Int) (of_decide_eq_true (by first | (with_reducible assumption) | assumption)) (by have h_ : (x130_5 : Int) < ((x12_5.length : Int) : Int) := of_decide_eq_true (by first | (with_reducible assumption) | assumption); first | exact h_ | (have e_ := (Kd.R_reads' HO_12.out).1; omega) | simpa using h_) (seg := [.int .i64 (-5)]) (j := 1) hcl65 hcc65 (show 2 ≤ 3 from by decide) (x' := (⟨(rd_T34 x12_5 x130_5).f0, (-5), (rd_T34 x12_5 x130_5).f2⟩ : S34)) (k34_mkM _ _ _ (⟨(rd_T34 x12_5 x130_5).f0, (-5), (rd_T34 x12_5 x130_5).f2⟩ : S34) ) (fun _ hk => hk))); (try (have hx65_1 := hcc65 1 _ rfl)); (try (try simp only [show (k34).sz = 3 from rfl, Nat.mul_one, Nat.add_zero] at hx65_1)); (try (have hf65_1 := hfr65 1)); (try (try simp only [show (k34).sz = 3 from rfl, Nat.mul_one, Nat.add_zero] at hf65_1)); (try (clear hcl65 hcc65 hfr65 hM65)))); refine store_event (t := 3) (p := 136) (v := ?vo_w66) (w1 := (wr.setCell ⟨go64, (x130_5 : Int).toNat * 3 + 1, none⟩ (.int .i64 (-5)))) ?hg ?ho ?hn ?hr ?_; (case ho => rfl); (case hg => rfl); (case hn => rfl); (case hr => first | (go_simp; done) | (go_simp; rfl)); intro w66 hw; have hg : wr.grownBy w66 (some go64) := (by rw [hw]; exact HP65.2); have hp_ : Kd.R k34 34 w66 w.heap.size (fun k_ => some k_ ≠ (v162 : Value).ownBlock) (.slice (some ⟨go64, 0, none⟩) x12_5.length co44) y172 := (by rw [hw, Ny172.out]; exact HP65.1); clear HP65; have n0_ := Aside0.mk (Kd.R_over' (v := (.slice (some ⟨go64, 0, none⟩) x12_5.length co44)) (by (with_reducible repeat (first | apply Kd.R_alloc | apply Kd.R_drewN | apply Kd.R_drew)); exact HO_11.out) (Kd.R_typed HO_12.out) (by decide) hg); have n1_ := Aside0.mk (hp_); have n2_ := Aside0.mk (Kd.R_after (v := (.slice (some ⟨go64, 0, none⟩) x12_5.length co44)) (v1 := (.slice (some ⟨go64, 0, none⟩) x12_5.length co44)) (ok := (fun _ => True)) (by (with_reducible repeat (first | apply Kd.R_alloc | apply Kd.R_drewN | apply Kd.R_drew)); exact Kd.R_mono HO_13.out (fun _ hk => ⟨trivial, hk⟩)) hg (.inl rfl)); have n3_ := Aside0.mk ((by rw [hw]; exact below_set (HB.out) GB64.out : Below w.heap.size w w66)); clear HO_11; clear HO_12; clear HO_13; clear HB; have HO_11 := n0_; have HO_12 := n1_; have HO_13 := n2_; have HB := n3_; clear n0_ n1_ n2_ n3_; clear hg hw hp_)))
                                              (try simp only [← hl12_5])
                                              go_roundg k5
                                              case measure => have := HJ3.out; have := HK2.out; have := HJ31.out; have := HK4.out; have := HK5.out; omega
                                              case rel => exact ⟨(y172), (wrap64 (x130_5 + 1)), (by first | rfl | (simp; done) | (simp [*]; done)), H', ⟨by have := HJ3.out; have := HK2.out; have := HJ31.out; have := HK4.out; have := HK5.out; omega⟩, ⟨by (try simp only [hl12_5]); (with_reducible repeat (first | apply Kd.R_alloc | apply Kd.R_drewN | apply Kd.R_drew)); exact HO_11.out⟩, ⟨by (try simp only [hl12_5]); (with_reducible repeat (first | apply Kd.R_alloc | apply Kd.R_drewN | apply Kd.R_drew)); exact HO_12.out⟩, ⟨by (try simp only [hl12_5]); (with_reducible repeat (first | apply Kd.R_alloc | apply Kd.R_drewN | apply Kd.R_drew)); exact Kd.R_mono HO_13.out (fun _ hk => hk.2)⟩, ⟨by repeat (first | (with_reducible first | exact HB.out | apply below_alloc | apply pw_below_drewN | apply below_drew1) | exact HB.out)⟩⟩
                                            · rw [if_neg c63] at H
                                              exact absurd H (by simp)
                                          · rw [if_neg c62] at H
                                            exact absurd H (by simp)
                                        · rw [if_neg c61] at H
                                          have c61b0 : decide (x130_5 < (t158.length : Int)) = false := decide_eq_false c61
                                          try have c61l : decide (x130_5 < (x12_5.length : Int)) = false := by first | (rw [hl12_5]; exact c61b0) | (rw [← hl12_5]; exact c61b0)
                                          clear c61
                                          by_cases c67 : x12_5.length < 5864062014805
                                          · rw [if_pos c67] at H
                                            have LMc67 := Aside0.mk c67
                                            clear c67
                                            obtain ⟨y173, hy173⟩ : ∃ y_ : List (S34), y_ = (x12_5 ++ [(⟨(-1), 0, false⟩ : S34)]) := ⟨_, rfl⟩
                                            replace H : (bywashlaw16_PumpTells.l3 k5 l2 y145 t155 y173 t161 (t161.length : Int) 0 y142) = some r := by first | (rw [hy173]; with_reducible exact H) | (have H2_ := (Option.bind_some _ _).symm.trans H; rw [hy173]; with_reducible exact H2_) | (have H2_ := (Option.bind_some _ _).symm.trans H; with_reducible exact H2_) | with_reducible exact H | (rw [hy173]; exact H) | exact H
                                            have Ny173 := Aside0.mk hy173
                                            clear hy173
                                            have H' := Aside0.mk H
                                            clear H
                                            go_wp2_with (first | ((with_reducible refine gate_builtin (b := .append) (xs := #[(.tmp 138), (.tmp 140)]) rfl ?_); (try (refine gate_guard (by rfl) ?_; dsimp only)); at_builtin; refine Kd.R_append k34 (w0 := w) w.heap.size rfl (.tmp 138) (.tmp 140) 31 34 (.agg #[(.int .i64 0), (.int .i64 0), (.bool false)]) 24 rfl Try.underlying31 info34 rfl (by decide) (by omega) (.slice Ao44 x12_5.length co44) x12_5 (⟨(-1), 0, false⟩ : S34) [.int .i64 (-1), .int .i64 0, .bool false] (fun k_ => some k_ ≠ (v162 : Value).ownBlock) (fun _ => False) rfl rfl ?aP (fun _ hk => hk.elim) ?aF ?aO ?aB ?aS ?aL ?_; (case aP => exact k34_mkM _ _ _ (⟨(-1), 0, false⟩ : S34)); (case aB => exact (by repeat (first | (with_reducible first | exact HB.out | apply below_alloc | apply pw_below_drewN | apply below_drew1) | exact HB.out))); (case aF => exact (fun k_ hk => Kd.fresh' (Kd.R_lt (by (with_reducible repeat (first | apply Kd.R_alloc | apply Kd.R_drewN | apply Kd.R_drew)); exact HO_13.out)) k_ hk)); (case aO => exact (by (with_reducible repeat (first | apply Kd.R_alloc | apply Kd.R_drewN | apply Kd.R_drew)); exact HO_12.out)); (case aS => exact (below_size (by repeat (first | (with_reducible first | exact HB.out | apply below_alloc | apply pw_below_drewN | apply below_drew1) | exact HB.out)))); (case aL => have := LMc67.out; omega); intro v174 w68 ho hb hg hat; rw [← Ny173.out] at ho; have n0_ := Aside0.mk (Kd.R_over' (by (with_reducible repeat (first | apply Kd.R_alloc | apply Kd.R_drewN | apply Kd.R_drew)); exact HO_11.out) (Kd.R_typed (by (with_reducible repeat (first | apply Kd.R_alloc | apply Kd.R_drewN | apply Kd.R_drew)); exact HO_12.out)) (by decide) hg); have n1_ := Aside0.mk (Kd.R_after (ok := (fun _ => True)) (by (with_reducible repeat (first | apply Kd.R_alloc | apply Kd.R_drewN | apply Kd.R_drew)); exact Kd.R_mono HO_13.out (fun _ hk => ⟨trivial, hk⟩)) hg hat); have n2_ := Aside0.mk (hb); have n3_ := Aside0.mk (ho); clear HO_11; clear HO_13; clear HB; clear HO_12; have HO_11 := n0_; have HO_13 := n1_; have HB := n2_; have HO175 := n3_; clear n0_ n1_ n2_ n3_; clear ho hb hg hat; obtain ⟨Ao69, co69, eo69⟩ := Kd.R_slice HO_13.out; subst eo69))
                                            repeat (go_quiet (first | ((with_reducible refine gate_builtin (b := .append) (xs := #[(.tmp 138), (.tmp 140)]) rfl ?_); (try (refine gate_guard (by rfl) ?_; dsimp only)); at_builtin; refine Kd.R_append k34 (w0 := w) w.heap.size rfl (.tmp 138) (.tmp 140) 31 34 (.agg #[(.int .i64 0), (.int .i64 0), (.bool false)]) 24 rfl Try.underlying31 info34 rfl (by decide) (by omega) (.slice Ao44 x12_5.length co44) x12_5 (⟨(-1), 0, false⟩ : S34) [.int .i64 (-1), .int .i64 0, .bool false] (fun k_ => some k_ ≠ (v162 : Value).ownBlock) (fun _ => False) rfl rfl ?aP (fun _ hk => hk.elim) ?aF ?aO ?aB ?aS ?aL ?_; (case aP => exact k34_mkM _ _ _ (⟨(-1), 0, false⟩ : S34)); (case aB => exact (by repeat (first | (with_reducible first | exact HB.out | apply below_alloc | apply pw_below_drewN | apply below_drew1) | exact HB.out))); (case aF => exact (fun k_ hk => Kd.fresh' (Kd.R_lt (by (with_reducible repeat (first | apply Kd.R_alloc | apply Kd.R_drewN | apply Kd.R_drew)); exact HO_13.out)) k_ hk)); (case aO => exact (by (with_reducible repeat (first | apply Kd.R_alloc | apply Kd.R_drewN | apply Kd.R_drew)); exact HO_12.out)); (case aS => exact (below_size (by repeat (first | (with_reducible first | exact HB.out | apply below_alloc | apply pw_below_drewN | apply below_drew1) | exact HB.out)))); (case aL => have := LMc67.out; omega); intro v174 w68 ho hb hg hat; rw [← Ny173.out] at ho; have n0_ := Aside0.mk (Kd.R_over' (by (with_reducible repeat (first | apply Kd.R_alloc | apply Kd.R_drewN | apply Kd.R_drew)); exact HO_11.out) (Kd.R_typed (by (with_reducible repeat (first | apply Kd.R_alloc | apply Kd.R_drewN | apply Kd.R_drew)); exact HO_12.out)) (by decide) hg); have n1_ := Aside0.mk (Kd.R_after (ok := (fun _ => True)) (by (with_reducible repeat (first | apply Kd.R_alloc | apply Kd.R_drewN | apply Kd.R_drew)); exact Kd.R_mono HO_13.out (fun _ hk => ⟨trivial, hk⟩)) hg hat); have n2_ := Aside0.mk (hb); have n3_ := Aside0.mk (ho); clear HO_11; clear HO_13; clear HB; clear HO_12; have HO_11 := n0_; have HO_13 := n1_; have HB := n2_; have HO175 := n3_; clear n0_ n1_ n2_ n3_; clear ho hb hg hat; obtain ⟨Ao69, co69, eo69⟩ := Kd.R_slice HO_13.out; subst eo69)); try go_wp2_with (first | ((with_reducible refine gate_builtin (b := .append) (xs := #[(.tmp 138), (.tmp 140)]) rfl ?_); (try (refine gate_guard (by rfl) ?_; dsimp only)); at_builtin; refine Kd.R_append k34 (w0 := w) w.heap.size rfl (.tmp 138) (.tmp 140) 31 34 (.agg #[(.int .i64 0), (.int .i64 0), (.bool false)]) 24 rfl Try.underlying31 info34 rfl (by decide) (by omega) (.slice Ao44 x12_5.length co44) x12_5 (⟨(-1), 0, false⟩ : S34) [.int .i64 (-1), .int .i64 0, .bool false] (fun k_ => some k_ ≠ (v162 : Value).ownBlock) (fun _ => False) rfl rfl ?aP (fun _ hk => hk.elim) ?aF ?aO ?aB ?aS ?aL ?_; (case aP => exact k34_mkM _ _ _ (⟨(-1), 0, false⟩ : S34)); (case aB => exact (by repeat (first | (with_reducible first | exact HB.out | apply below_alloc | apply pw_below_drewN | apply below_drew1) | exact HB.out))); (case aF => exact (fun k_ hk => Kd.fresh' (Kd.R_lt (by (with_reducible repeat (first | apply Kd.R_alloc | apply Kd.R_drewN | apply Kd.R_drew)); exact HO_13.out)) k_ hk)); (case aO => exact (by (with_reducible repeat (first | apply Kd.R_alloc | apply Kd.R_drewN | apply Kd.R_drew)); exact HO_12.out)); (case aS => exact (below_size (by repeat (first | (with_reducible first | exact HB.out | apply below_alloc | apply pw_below_drewN | apply below_drew1) | exact HB.out)))); (case aL => have := LMc67.out; omega); intro v174 w68 ho hb hg hat; rw [← Ny173.out] at ho; have n0_ := Aside0.mk (Kd.R_over' (by (with_reducible repeat (first | apply Kd.R_alloc | apply Kd.R_drewN | apply Kd.R_drew)); exact HO_11.out) (Kd.R_typed (by (with_reducible repeat (first | apply Kd.R_alloc | apply Kd.R_drewN | apply Kd.R_drew)); exact HO_12.out)) (by decide) hg); have n1_ := Aside0.mk (Kd.R_after (ok := (fun _ => True)) (by (with_reducible repeat (first | apply Kd.R_alloc | apply Kd.R_drewN | apply Kd.R_drew)); exact Kd.R_mono HO_13.out (fun _ hk => ⟨trivial, hk⟩)) hg hat); have n2_ := Aside0.mk (hb); have n3_ := Aside0.mk (ho); clear HO_11; clear HO_13; clear HB; clear HO_12; have HO_11 := n0_; have HO_13 := n1_; have HB := n2_; have HO175 := n3_; clear n0_ n1_ n2_ n3_; clear ho hb hg hat; obtain ⟨Ao69, co69, eo69⟩ := Kd.R_slice HO_13.out; subst eo69)))
                                            go_loopg [144] k5 (fun kq v144 w' => ∃ (x144_6 : Int), v144 = .int .i64 x144_6 ∧ Aside0 (bywashlaw16_PumpTells.l3 kq l2 y145 t155 y173 t161 (t161.length : Int) x144_6 y142 = some r) ∧ Aside0 (kq ≤ k5) ∧ Aside0 (Kd.R k35 35 w' w.heap.size (fun _ => True) v156 t155) ∧ Aside0 (Kd.R k34 34 w' w.heap.size (fun k_ => some k_ ≠ ((.slice Ao69 t161.length co69) : Value).ownBlock) v174 y173) ∧ Aside0 (Kd.R k34 34 w' w.heap.size (fun k_ => some k_ ≠ (v174 : Value).ownBlock) (.slice Ao69 t161.length co69) t161) ∧ Aside0 (Below w.heap.size w w'))
                                            case atStart => exact ⟨(0), (by first | rfl | (simp; done) | (simp [*]; done)), H', ⟨Nat.le_refl _⟩, ⟨by (try simp only [hl12_5]); (with_reducible repeat (first | apply Kd.R_alloc | apply Kd.R_drewN | apply Kd.R_drew)); exact HO_11.out⟩, ⟨by (try simp only [hl12_5]); (with_reducible repeat (first | apply Kd.R_alloc | apply Kd.R_drewN | apply Kd.R_drew)); exact HO175.out⟩, ⟨by (try simp only [hl12_5]); (with_reducible repeat (first | apply Kd.R_alloc | apply Kd.R_drewN | apply Kd.R_drew)); exact Kd.R_mono HO_13.out (fun _ hk => hk.2)⟩, ⟨by repeat (first | (with_reducible first | exact HB.out | apply below_alloc | apply pw_below_drewN | apply below_drew1) | exact HB.out)⟩⟩
                                            case round =>
                                              clear H'
                                              try clear c1
                                              try clear p1
                                              try clear q1
                                              try clear hx1
                                              try clear c2
                                              try clear p2
                                              try clear q2
                                              try clear c3
                                              try clear c4
                                              try clear c5
                                              try clear c6
                                              try clear p6
                                              try clear q6
                                              try clear hx6
                                              try clear hf6
                                              try clear c11
                                              try clear c14
                                              try clear c15
                                              try clear p15
                                              try clear q15
                                              try clear hx15
                                              try clear c16
                                              try clear c16b0
                                              try clear c16b1
                                              try clear p16
                                              try clear q16
                                              try clear hx16
                                              try clear c17
                                              try clear c17b0
                                              try clear c17b1
                                              try clear p17
                                              try clear q17
                                              try clear hx17
                                              try clear q20
                                              try clear c22
                                              try clear c22b0
                                              try clear c23
                                              try clear c23b0
                                              try clear c24
                                              try clear c24b0
                                              try clear c25
                                              try clear c37
                                              try clear c37b0
                                              try clear c37b1
                                              try clear c37b2
                                              try clear c43
                                              try clear c45
                                              try clear c45b0
                                              try clear c47
                                              try clear c47b0
                                              try clear c48
                                              try clear c48b0
                                              try clear c49
                                              try clear c49b0
                                              try clear c50
                                              try clear c50b0
                                              try clear c52
                                              try clear c52b0
                                              try clear c55
                                              try clear c56
                                              try clear c56b0
                                              try clear c57
                                              try clear c57b0
                                              try clear c59
                                              try clear c59b0
                                              try clear c59b1
                                              try clear c61
                                              try clear c61b0
                                              try clear c62
                                              try clear c62b0
                                              try clear c63
                                              try clear c63b0
                                              try clear c64
                                              try clear p64
                                              try clear q64
                                              try clear hx64
                                              try clear hf64
                                              try clear c65
                                              try clear hx65
                                              try clear hf65
                                              try clear c67
                                              try clear hcz27_0
                                              try clear hcz27_1
                                              try clear hcz27_2
                                              try clear hcz27_3
                                              try clear hfz27_0
                                              try clear hfz27_1
                                              try clear hfz27_2
                                              try clear hfz27_3
                                              try clear hx150_0
                                              try clear hx150_1
                                              try clear hx150_2
                                              try clear hx150_3
                                              try clear hx164_0
                                              try clear hx164_1
                                              try clear hx164_2
                                              try clear hx165_0
                                              try clear hx165_1
                                              try clear hx165_2
                                              try clear hx166_0
                                              try clear hx166_1
                                              try clear hx166_2
                                              try clear hx167_0
                                              try clear hx167_1
                                              try clear hx167_2
                                              try clear hx168_0
                                              try clear hx168_1
                                              try clear hx168_2
                                              try clear hx169_0
                                              try clear hx169_1
                                              try clear hx169_2
                                              try clear hx170_0
                                              try clear hx170_1
                                              try clear hx170_2
                                              try clear hx64_0
                                              try clear hx64_1
                                              try clear hx64_2
                                              try clear hx65_1
                                              try clear p1
                                              try clear p15
                                              try clear p150
                                              try clear p16
                                              try clear p164
                                              try clear p165
                                              try clear p166
                                              try clear p167
                                              try clear p168
                                              try clear p169
                                              try clear p17
                                              try clear p170
                                              try clear p2
                                              try clear p6
                                              try clear p64
                                              try clear q1
                                              try clear q15
                                              try clear q150
                                              try clear q16
                                              try clear q164
                                              try clear q165
                                              try clear q166
                                              try clear q167
                                              try clear q168
                                              try clear q169
                                              try clear q17
                                              try clear q170
                                              try clear q2
                                              try clear q20
                                              try clear q64
                                              obtain ⟨x144_6, rfl, HA, HK6, HO_11, HO_12, HO_13, HB⟩ := hrel
                                              cases gk with
                                              | zero => exact absurd HA.out (by simp [bywashlaw16_PumpTells.l3])
                                              | succ k6 =>
                                                have H := HA.out
                                                clear HA
                                                simp only [bywashlaw16_PumpTells.l3] at H
                                                by_cases c70 : x144_6 < (t161.length : Int)
                                                · rw [if_pos c70] at H
                                                  have c70b0 : decide (x144_6 < (t161.length : Int)) = true := decide_eq_true c70
                                                  try have c70l : decide (x144_6 < (x12_5.length : Int)) = true := by first | (rw [hl12_5]; exact c70b0) | (rw [← hl12_5]; exact c70b0)
                                                  clear c70
                                                  by_cases c71 : 0 ≤ x144_6
                                                  · rw [if_pos c71] at H
                                                    have c71b0 : decide (0 ≤ x144_6) = true := decide_eq_true c71
                                                    clear c71
                                                    by_cases c72 : x144_6 < (t161.length : Int)
                                                    · rw [if_pos c72] at H
                                                      have c72b0 : decide (x144_6 < (t161.length : Int)) = true := decide_eq_true c72
                                                      try have c72l : decide (x144_6 < (x12_5.length : Int)) = true := by first | (rw [hl12_5]; exact c72b0) | (rw [← hl12_5]; exact c72b0)
                                                      clear c72
                                                      by_cases c73 : x144_6 < (t155.length : Int)
                                                      · rw [if_pos c73] at H
                                                        have c73b0 : decide (x144_6 < (t155.length : Int)) = true := decide_eq_true c73
                                                        try have c73l : decide (x144_6 < (x12_5.length : Int)) = true := by first | (rw [hl12_5]; exact c73b0) | (rw [← hl12_5]; exact c73b0)
                                                        clear c73
                                                        by_cases c74 : ((rd_T34 t161 x144_6).f1) = ((rd_T35 t155 x144_6).f1)
                                                        · rw [if_pos c74] at H
                                                          have c74b0 : (((rd_T34 t161 x144_6).f1) == ((rd_T35 t155 x144_6).f1)) = true := beq_iff_eq.mpr c74
                                                          have c74b1 : (((rd_T34 t161 x144_6).f1) != ((rd_T35 t155 x144_6).f1)) = false := bne_eq_false_iff_eq.mpr c74
                                                          clear c74
                                                          have H' := Aside0.mk H
                                                          clear H
                                                          have p176 : 0 ≤ (x144_6 : Int) := of_decide_eq_true (by first | (with_reducible assumption) | assumption)
                                                          have q176 : x144_6 < (t161.length : Int) := of_decide_eq_true (by first | (with_reducible assumption) | assumption)
                                                          obtain ⟨ad176, e176, hx176_0, hx176_1, hx176_2⟩ := at_T34 (Kd.R_reads' HO_13.out).2.2 x144_6 p176 q176
                                                          cases e176
                                                          replace p176 := eq_true p176
                                                          replace q176 := eq_true q176
                                                          obtain ⟨Ao75, co75, eo75⟩ := Kd.R_slice HO_11.out
                                                          subst eo75
                                                          have p177 : 0 ≤ (x144_6 : Int) := of_decide_eq_true (by first | (with_reducible assumption) | assumption)
                                                          have q177 : x144_6 < (t155.length : Int) := of_decide_eq_true (by first | (with_reducible assumption) | assumption)
                                                          obtain ⟨ad177, e177, hx177_0, hx177_1, hx177_2⟩ := at_T35 (Kd.R_reads' HO_11.out).2.2 x144_6 p177 q177
                                                          cases e177
                                                          replace p177 := eq_true p177
                                                          replace q177 := eq_true q177
                                                          go_wp2
                                                          repeat (go_quiet (fail); try go_wp2)
                                                          go_roundg k6
                                                          case measure => have := HJ3.out; have := HK2.out; have := HJ31.out; have := HK4.out; have := HK5.out; have := HK6.out; omega
                                                          case rel => exact ⟨(wrap64 (x144_6 + 1)), (by first | rfl | (simp; done) | (simp [*]; done)), H', ⟨by have := HJ3.out; have := HK2.out; have := HJ31.out; have := HK4.out; have := HK5.out; have := HK6.out; omega⟩, ⟨by (try simp only [hl12_5]); (with_reducible repeat (first | apply Kd.R_alloc | apply Kd.R_drewN | apply Kd.R_drew)); exact HO_11.out⟩, ⟨by (try simp only [hl12_5]); (with_reducible repeat (first | apply Kd.R_alloc | apply Kd.R_drewN | apply Kd.R_drew)); exact HO_12.out⟩, ⟨by (try simp only [hl12_5]); (with_reducible repeat (first | apply Kd.R_alloc | apply Kd.R_drewN | apply Kd.R_drew)); exact HO_13.out⟩, ⟨by repeat (first | (with_reducible first | exact HB.out | apply below_alloc | apply pw_below_drewN | apply below_drew1) | exact HB.out)⟩⟩
                                                        · rw [if_neg c74] at H
                                                          have c74b0 : (((rd_T34 t161 x144_6).f1) == ((rd_T35 t155 x144_6).f1)) = false := beq_eq_false_iff_ne.mpr c74
                                                          have c74b1 : (((rd_T34 t161 x144_6).f1) != ((rd_T35 t155 x144_6).f1)) = true := bne_iff_ne.mpr c74
                                                          obtain rfl := Option.some.inj H
                                                          have p176 : 0 ≤ (x144_6 : Int) := of_decide_eq_true (by first | (with_reducible assumption) | assumption)
                                                          have q176 : x144_6 < (t161.length : Int) := of_decide_eq_true (by first | (with_reducible assumption) | assumption)
                                                          obtain ⟨ad176, e176, hx176_0, hx176_1, hx176_2⟩ := at_T34 (Kd.R_reads' HO_13.out).2.2 x144_6 p176 q176
                                                          cases e176
                                                          replace p176 := eq_true p176
                                                          replace q176 := eq_true q176
                                                          obtain ⟨Ao76, co76, eo76⟩ := Kd.R_slice HO_11.out
                                                          subst eo76
                                                          have p177 : 0 ≤ (x144_6 : Int) := of_decide_eq_true (by first | (with_reducible assumption) | assumption)
                                                          have q177 : x144_6 < (t155.length : Int) := of_decide_eq_true (by first | (with_reducible assumption) | assumption)
                                                          obtain ⟨ad177, e177, hx177_0, hx177_1, hx177_2⟩ := at_T35 (Kd.R_reads' HO_11.out).2.2 x144_6 p177 q177
                                                          cases e177
                                                          replace p177 := eq_true p177
                                                          replace q177 := eq_true q177
                                                          go_wp2
                                                          repeat (go_quiet (fail); try go_wp2)
                                                          go_ret
                                                          exact ⟨by first | rfl | (simp [errW_none, errW_some] <;> rfl) | (simp [*, errW_none, errW_some] <;> rfl), below_step HB0.out (by repeat (first | (with_reducible first | exact HB.out | apply below_alloc | apply pw_below_drewN | apply below_drew1) | exact HB.out))⟩
                                                      · rw [if_neg c73] at H
                                                        exact absurd H (by simp)
                                                    · rw [if_neg c72] at H
                                                      exact absurd H (by simp)
                                                  · rw [if_neg c71] at H
                                                    exact absurd H (by simp)
                                                · rw [if_neg c70] at H
                                                  have c70b0 : decide (x144_6 < (t161.length : Int)) = false := decide_eq_false c70
                                                  try have c70l : decide (x144_6 < (x12_5.length : Int)) = false := by first | (rw [hl12_5]; exact c70b0) | (rw [← hl12_5]; exact c70b0)
                                                  clear c70
                                                  have H' := Aside0.mk H
                                                  clear H
                                                  go_wp2
                                                  repeat (go_quiet (fail); try go_wp2)
                                                  go_loopg [161] k6 (fun kq v161 w' => ∃ (x161_7 : Int), v161 = .int .i64 x161_7 ∧ Aside0 (bywashlaw16_PumpTells.l4 kq l2 y145 t155 y173 (y145.length : Int) x161_7 y142 = some r) ∧ Aside0 (kq ≤ k6) ∧ Aside0 (Kd.R k35 35 w' w.heap.size (fun _ => True) v156 t155) ∧ Aside0 (Kd.R k34 34 w' w.heap.size (fun _ => True) v174 y173) ∧ Aside0 (Below w.heap.size w w'))
                                                  case atStart => exact ⟨(0), (by first | rfl | (simp; done) | (simp [*]; done)), H', ⟨Nat.le_refl _⟩, ⟨by (try simp only [hl12_5]); (with_reducible repeat (first | apply Kd.R_alloc | apply Kd.R_drewN | apply Kd.R_drew)); exact HO_11.out⟩, ⟨by (try simp only [hl12_5]); (with_reducible repeat (first | apply Kd.R_alloc | apply Kd.R_drewN | apply Kd.R_drew)); exact Kd.R_mono HO_12.out (fun _ hk => trivial)⟩, ⟨by repeat (first | (with_reducible first | exact HB.out | apply below_alloc | apply pw_below_drewN | apply below_drew1) | exact HB.out)⟩⟩
                                                  case round =>
                                                    clear H'
                                                    try clear c1
                                                    try clear p1
                                                    try clear q1
                                                    try clear hx1
                                                    try clear c2
                                                    try clear p2
                                                    try clear q2
                                                    try clear c3
                                                    try clear c4
                                                    try clear c5
                                                    try clear c6
                                                    try clear p6
                                                    try clear q6
                                                    try clear hx6
                                                    try clear hf6
                                                    try clear c7
                                                    try clear c11
                                                    try clear c14
                                                    try clear c15
                                                    try clear p15
                                                    try clear q15
                                                    try clear hx15
                                                    try clear c16
                                                    try clear c16b0
                                                    try clear c16b1
                                                    try clear p16
                                                    try clear q16
                                                    try clear hx16
                                                    try clear c17
                                                    try clear c17b0
                                                    try clear c17b1
                                                    try clear p17
                                                    try clear q17
                                                    try clear hx17
                                                    try clear q20
                                                    try clear c22
                                                    try clear c22b0
                                                    try clear c23
                                                    try clear c23b0
                                                    try clear c24
                                                    try clear c24b0
                                                    try clear c25
                                                    try clear c37
                                                    try clear c37b0
                                                    try clear c37b1
                                                    try clear c37b2
                                                    try clear c43
                                                    try clear c45
                                                    try clear c45b0
                                                    try clear c47
                                                    try clear c47b0
                                                    try clear c48
                                                    try clear c48b0
                                                    try clear c49
                                                    try clear c49b0
                                                    try clear c50
                                                    try clear c50b0
                                                    try clear c52
                                                    try clear c52b0
                                                    try clear c55
                                                    try clear c56
                                                    try clear c56b0
                                                    try clear c57
                                                    try clear c57b0
                                                    try clear c59
                                                    try clear c59b0
                                                    try clear c59b1
                                                    try clear c61
                                                    try clear c61b0
                                                    try clear c62
                                                    try clear c62b0
                                                    try clear c63
                                                    try clear c63b0
                                                    try clear c64
                                                    try clear p64
                                                    try clear q64
                                                    try clear hx64
                                                    try clear hf64
                                                    try clear c65
                                                    try clear hx65
                                                    try clear hf65
                                                    try clear c67
                                                    try clear c70
                                                    try clear c70b0
                                                    try clear c71
                                                    try clear c71b0
                                                    try clear c72
                                                    try clear c72b0
                                                    try clear c73
                                                    try clear c73b0
                                                    try clear c74
                                                    try clear c74b0
                                                    try clear c74b1
                                                    try clear hcz27_0
                                                    try clear hcz27_1
                                                    try clear hcz27_2
                                                    try clear hcz27_3
                                                    try clear hfz27_0
                                                    try clear hfz27_1
                                                    try clear hfz27_2
                                                    try clear hfz27_3
                                                    try clear hx150_0
                                                    try clear hx150_1
                                                    try clear hx150_2
                                                    try clear hx150_3
                                                    try clear hx164_0
                                                    try clear hx164_1
                                                    try clear hx164_2
                                                    try clear hx165_0
                                                    try clear hx165_1
                                                    try clear hx165_2
                                                    try clear hx166_0
                                                    try clear hx166_1
                                                    try clear hx166_2
                                                    try clear hx167_0
                                                    try clear hx167_1
                                                    try clear hx167_2
                                                    try clear hx168_0
                                                    try clear hx168_1
                                                    try clear hx168_2
                                                    try clear hx169_0
                                                    try clear hx169_1
                                                    try clear hx169_2
                                                    try clear hx170_0
                                                    try clear hx170_1
                                                    try clear hx170_2
                                                    try clear hx176_0
                                                    try clear hx176_1
                                                    try clear hx176_2
                                                    try clear hx177_0
                                                    try clear hx177_1
                                                    try clear hx177_2
                                                    try clear hx64_0
                                                    try clear hx64_1
                                                    try clear hx64_2
                                                    try clear hx65_1
                                                    try clear p1
                                                    try clear p15
                                                    try clear p150
                                                    try clear p16
                                                    try clear p164
                                                    try clear p165
                                                    try clear p166
                                                    try clear p167
                                                    try clear p168
                                                    try clear p169
                                                    try clear p17
                                                    try clear p170
                                                    try clear p176
                                                    try clear p177
                                                    try clear p2
                                                    try clear p6
                                                    try clear p64
                                                    try clear q1
                                                    try clear q15
                                                    try clear q150
                                                    try clear q16
                                                    try clear q164
                                                    try clear q165
                                                    try clear q166
                                                    try clear q167
                                                    try clear q168
                                                    try clear q169
                                                    try clear q17
                                                    try clear q170
                                                    try clear q176
                                                    try clear q177
                                                    try clear q2
                                                    try clear q20
                                                    try clear q6
                                                    try clear q64
                                                    obtain ⟨x161_7, rfl, HA, HK7, HO_11, HO_12, HB⟩ := hrel
                                                    cases gk with
                                                    | zero => exact absurd HA.out (by simp [bywashlaw16_PumpTells.l4])
                                                    | succ k7 =>
                                                      have H := HA.out
                                                      clear HA
                                                      simp only [bywashlaw16_PumpTells.l4] at H
                                                      by_cases c77 : x161_7 < (y145.length : Int)
                                                      · rw [if_pos c77] at H
                                                        have c77b0 : decide (x161_7 < (y145.length : Int)) = true := decide_eq_true c77
                                                        try have c77l : decide (x161_7 < (x12_5.length : Int)) = true := by first | (rw [hl12_5]; exact c77b0) | (rw [← hl12_5]; exact c77b0)
                                                        clear c77
                                                        by_cases c78 : 0 ≤ x161_7
                                                        · rw [if_pos c78] at H
                                                          have c78b0 : decide (0 ≤ x161_7) = true := decide_eq_true c78
                                                          clear c78
                                                          by_cases c79 : x161_7 < (y145.length : Int)
                                                          · rw [if_pos c79] at H
                                                            have c79b0 : decide (x161_7 < (y145.length : Int)) = true := decide_eq_true c79
                                                            try have c79l : decide (x161_7 < (x12_5.length : Int)) = true := by first | (rw [hl12_5]; exact c79b0) | (rw [← hl12_5]; exact c79b0)
                                                            clear c79
                                                            by_cases c80 : x161_7 < (l2.length : Int)
                                                            · rw [if_pos c80] at H
                                                              have c80b0 : decide (x161_7 < (l2.length : Int)) = true := decide_eq_true c80
                                                              try have c80l : decide (x161_7 < (x12_5.length : Int)) = true := by first | (rw [hl12_5]; exact c80b0) | (rw [← hl12_5]; exact c80b0)
                                                              clear c80
                                                              by_cases c81 : (!(((rd_T26 y145 x161_7).f0) == ((rd_T26 l2 x161_7).f0)) || (!(((rd_T26 y145 x161_7).f1) == ((rd_T26 l2 x161_7).f1)) || (!(((rd_T26 y145 x161_7).f2) == ((rd_T26 l2 x161_7).f2)) || (!(((rd_T26 y145 x161_7).f3) == ((rd_T26 l2 x161_7).f3)))))) = true
                                                              · rw [if_pos c81] at H
                                                                have c81b0 : (!(((rd_T26 y145 x161_7).f0) == ((rd_T26 l2 x161_7).f0)) || (!(((rd_T26 y145 x161_7).f1) == ((rd_T26 l2 x161_7).f1)) || (!(((rd_T26 y145 x161_7).f2) == ((rd_T26 l2 x161_7).f2)) || (!(((rd_T26 y145 x161_7).f3) == ((rd_T26 l2 x161_7).f3)))))) = true := c81
                                                                clear c81
                                                                obtain rfl := Option.some.inj H
                                                                have p183 : 0 ≤ (x161_7 : Int) := of_decide_eq_true (by first | (with_reducible assumption) | assumption)
                                                                have q183 : x161_7 < (y145.length : Int) := of_decide_eq_true (by first | (with_reducible assumption) | assumption)
                                                                obtain ⟨ad183, e183, hx183_0, hx183_1, hx183_2, hx183_3⟩ := at_T26 HR148.out x161_7 p183 q183
                                                                cases e183
                                                                replace hx183_0 := (HB.out.cell (World.block_lt_of_cell? w _ hx183_0)).trans hx183_0
                                                                replace hx183_1 := (HB.out.cell (World.block_lt_of_cell? w _ hx183_1)).trans hx183_1
                                                                replace hx183_2 := (HB.out.cell (World.block_lt_of_cell? w _ hx183_2)).trans hx183_2
                                                                replace hx183_3 := (HB.out.cell (World.block_lt_of_cell? w _ hx183_3)).trans hx183_3
                                                                replace p183 := eq_true p183
                                                                replace q183 := eq_true q183
                                                                have p184 : 0 ≤ (x161_7 : Int) := of_decide_eq_true (by first | (with_reducible assumption) | assumption)
                                                                have q184 : x161_7 < (l2.length : Int) := of_decide_eq_true (by first | (with_reducible assumption) | assumption)
                                                                obtain ⟨ad184, e184, hx184_0, hx184_1, hx184_2, hx184_3⟩ := at_T26 HR2.out x161_7 p184 q184
                                                                cases e184
                                                                replace hx184_0 := (HB.out.cell (World.block_lt_of_cell? w _ hx184_0)).trans hx184_0
                                                                replace hx184_1 := (HB.out.cell (World.block_lt_of_cell? w _ hx184_1)).trans hx184_1
                                                                replace hx184_2 := (HB.out.cell (World.block_lt_of_cell? w _ hx184_2)).trans hx184_2
                                                                replace hx184_3 := (HB.out.cell (World.block_lt_of_cell? w _ hx184_3)).trans hx184_3
                                                                replace p184 := eq_true p184
                                                                replace q184 := eq_true q184
                                                                go_wp2
                                                                repeat (go_quiet (fail); try go_wp2)
                                                                go_ret
                                                                exact ⟨by first | rfl | (simp [errW_none, errW_some] <;> rfl) | (simp [*, errW_none, errW_some] <;> rfl), below_step HB0.out (by repeat (first | (with_reducible first | exact HB.out | apply below_alloc | apply pw_below_drewN | apply below_drew1) | exact HB.out))⟩
                                                              · rw [if_neg c81] at H
                                                                have c81b0 : (!(((rd_T26 y145 x161_7).f0) == ((rd_T26 l2 x161_7).f0)) || (!(((rd_T26 y145 x161_7).f1) == ((rd_T26 l2 x161_7).f1)) || (!(((rd_T26 y145 x161_7).f2) == ((rd_T26 l2 x161_7).f2)) || (!(((rd_T26 y145 x161_7).f3) == ((rd_T26 l2 x161_7).f3)))))) = false := by simpa using c81
                                                                clear c81
                                                                have H' := Aside0.mk H
                                                                clear H
                                                                have p183 : 0 ≤ (x161_7 : Int) := of_decide_eq_true (by first | (with_reducible assumption) | assumption)
                                                                have q183 : x161_7 < (y145.length : Int) := of_decide_eq_true (by first | (with_reducible assumption) | assumption)
                                                                obtain ⟨ad183, e183, hx183_0, hx183_1, hx183_2, hx183_3⟩ := at_T26 HR148.out x161_7 p183 q183
                                                                cases e183
                                                                replace hx183_0 := (HB.out.cell (World.block_lt_of_cell? w _ hx183_0)).trans hx183_0
                                                                replace hx183_1 := (HB.out.cell (World.block_lt_of_cell? w _ hx183_1)).trans hx183_1
                                                                replace hx183_2 := (HB.out.cell (World.block_lt_of_cell? w _ hx183_2)).trans hx183_2
                                                                replace hx183_3 := (HB.out.cell (World.block_lt_of_cell? w _ hx183_3)).trans hx183_3
                                                                replace p183 := eq_true p183
                                                                replace q183 := eq_true q183
                                                                have p184 : 0 ≤ (x161_7 : Int) := of_decide_eq_true (by first | (with_reducible assumption) | assumption)
                                                                have q184 : x161_7 < (l2.length : Int) := of_decide_eq_true (by first | (with_reducible assumption) | assumption)
                                                                obtain ⟨ad184, e184, hx184_0, hx184_1, hx184_2, hx184_3⟩ := at_T26 HR2.out x161_7 p184 q184
                                                                cases e184
                                                                replace hx184_0 := (HB.out.cell (World.block_lt_of_cell? w _ hx184_0)).trans hx184_0
                                                                replace hx184_1 := (HB.out.cell (World.block_lt_of_cell? w _ hx184_1)).trans hx184_1
                                                                replace hx184_2 := (HB.out.cell (World.block_lt_of_cell? w _ hx184_2)).trans hx184_2
                                                                replace hx184_3 := (HB.out.cell (World.block_lt_of_cell? w _ hx184_3)).trans hx184_3
                                                                replace p184 := eq_true p184
                                                                replace q184 := eq_true q184
                                                                go_wp2
                                                                repeat (go_quiet (fail); try go_wp2)
                                                                go_roundg k7
                                                                case measure => have := HJ3.out; have := HK2.out; have := HJ31.out; have := HK4.out; have := HK5.out; have := HK6.out; have := HK7.out; omega
                                                                case rel => exact ⟨(wrap64 (x161_7 + 1)), (by first | rfl | (simp; done) | (simp [*]; done)), H', ⟨by have := HJ3.out; have := HK2.out; have := HJ31.out; have := HK4.out; have := HK5.out; have := HK6.out; have := HK7.out; omega⟩, ⟨by (try simp only [hl12_5]); (with_reducible repeat (first | apply Kd.R_alloc | apply Kd.R_drewN | apply Kd.R_drew)); exact HO_11.out⟩, ⟨by (try simp only [hl12_5]); (with_reducible repeat (first | apply Kd.R_alloc | apply Kd.R_drewN | apply Kd.R_drew)); exact HO_12.out⟩, ⟨by repeat (first | (with_reducible first | exact HB.out | apply below_alloc | apply pw_below_drewN | apply below_drew1) | exact HB.out)⟩⟩
                                                            · rw [if_neg c80] at H
                                                              exact absurd H (by simp)
                                                          · rw [if_neg c79] at H
                                                            exact absurd H (by simp)
                                                        · rw [if_neg c78] at H
                                                          exact absurd H (by simp)
                                                      · rw [if_neg c77] at H
                                                        have c77b0 : decide (x161_7 < (y145.length : Int)) = false := decide_eq_false c77
                                                        try have c77l : decide (x161_7 < (x12_5.length : Int)) = false := by first | (rw [hl12_5]; exact c77b0) | (rw [← hl12_5]; exact c77b0)
                                                        clear c77
                                                        obtain ⟨ji82, hji82⟩ : ∃ j_ : Int, (wrap64 ((y145.length : Int) + 1)) = j_ := ⟨_, rfl⟩
                                                        replace H : (if 0 ≤ (ji82) then (if (ji82) ≤ (y142.length : Int) then ((some (y142.take ((ji82) : Int).toNat : List (S26))).bind fun y178 => (if 0 ≤ (y145.length : Int) then (if (y145.length : Int) < (y178.length : Int) then (if ((rd_T26 y178 (y145.length : Int)).f0) = (-77) then (some ((y173.length : Int) == (wrap64 ((t155.length : Int) + 1)))) else (some false)) else (none)) else (none))) else (none)) else (none)) = some r := by first | (rw [hji82] at H; exact H) | (simp only [hji82] at H ⊢; exact H)
                                                        have hji82w : (IntKind.i64.wrap ((y145.length : Int) + 1)) = ji82 := (i64_w _).trans hji82
                                                        by_cases c83 : 0 ≤ (ji82)
                                                        · rw [if_pos c83] at H
                                                          have c83b0 := eq_true c83
                                                          have c83b1 : decide (0 ≤ (ji82)) = true := decide_eq_true c83
                                                          clear c83
                                                          by_cases c84 : (ji82) ≤ (y142.length : Int)
                                                          · rw [if_pos c84] at H
                                                            have c84b0 := eq_true c84
                                                            have c84b1 : decide ((ji82) ≤ (y142.length : Int)) = true := decide_eq_true c84
                                                            clear c84
                                                            obtain ⟨y178, hy178⟩ : ∃ y_ : List (S26), y_ = (y142.take ((ji82) : Int).toNat) := ⟨_, rfl⟩
                                                            replace H : (if 0 ≤ (y145.length : Int) then (if (y145.length : Int) < (y178.length : Int) then (if ((rd_T26 y178 (y145.length : Int)).f0) = (-77) then (some ((y173.length : Int) == (wrap64 ((t155.length : Int) + 1)))) else (some false)) else (none)) else (none)) = some r := by first | (rw [hy178]; with_reducible exact H) | (have H2_ := (Option.bind_some _ _).symm.trans H; rw [hy178]; with_reducible exact H2_) | (have H2_ := (Option.bind_some _ _).symm.trans H; with_reducible exact H2_) | with_reducible exact H | (rw [hy178]; exact H) | exact H
                                                            have Ny178 := Aside0.mk hy178
                                                            clear hy178
                                                            by_cases c85 : 0 ≤ (y145.length : Int)
                                                            · rw [if_pos c85] at H
                                                              have c85b0 : decide (0 ≤ (y145.length : Int)) = true := decide_eq_true c85
                                                              have c85b1 : decide (0 ≤ y145.length) = true := decide_eq_true (by omega)
                                                              clear c85
                                                              by_cases c86 : (y145.length : Int) < (y178.length : Int)
                                                              · rw [if_pos c86] at H
                                                                have c86b0 : decide ((y145.length : Int) < (y178.length : Int)) = true := decide_eq_true c86
                                                                have c86b1 : decide (y145.length < y178.length) = true := decide_eq_true (Int.ofNat_lt.mp c86)
                                                                clear c86
                                                                by_cases c87 : ((rd_T26 y178 (y145.length : Int)).f0) = (-77)
                                                                · rw [if_pos c87] at H
                                                                  have c87b0 : (((rd_T26 y178 (y145.length : Int)).f0) == (-77)) = true := beq_iff_eq.mpr c87
                                                                  have c87b1 : (((rd_T26 y178 (y145.length : Int)).f0) != (-77)) = false := bne_eq_false_iff_eq.mpr c87
                                                                  clear c87
                                                                  obtain rfl := Option.some.inj H
                                                                  have q88 : ((ji82) : Int) ≤ ((y142.length : Int) : Int) := of_decide_eq_true (by first | (with_reducible assumption) | assumption)
                                                                  obtain ⟨i088, hi088, _, hsz88, _⟩ := info_parts info26
                                                                  have hroom88 : y142.length ≤ co21 := HQ149.out
                                                                  have hC88 : Kd.C k26 _ Ao21 y142.length y142 := HR149.out
                                                                  have hcut88 := cut_up (P := Try.prog) 22 26 .i64 Try.underlying22 hi088 Ao21 y145.length co21 (ji82) (of_decide_eq_true (by first | (with_reducible assumption) | assumption)) (by omega)
                                                                  have hr88 := Kd.C_take (m := ((ji82) : Int).toNat) hC88 (by omega)
                                                                  have hy88 : y178.length = ((ji82) : Int).toNat := (by rw [Ny178.out, List.length_take]; omega)
                                                                  rw [← Ny178.out] at hr88
                                                                  rw [← hy88] at hcut88
                                                                  have HR181 := Aside0.mk hr88
                                                                  have HC181 := Aside0.mk (show y178.length ≤ co21 from by omega)
                                                                  clear hr88 hC88 hroom88 hi088 hsz88
                                                                  have KY88 := Aside0.mk hy88
                                                                  clear hy88
                                                                  replace q88 := eq_true q88
                                                                  have p182 : 0 ≤ ((y145.length : Int) : Int) := of_decide_eq_true (by first | (with_reducible assumption) | assumption)
                                                                  have q182 : (y145.length : Int) < (y178.length : Int) := of_decide_eq_true (by first | (with_reducible assumption) | assumption)
                                                                  obtain ⟨ad182, e182, hx182_0, hx182_1, hx182_2, hx182_3⟩ := at_T26 HR181.out (y145.length : Int) p182 q182
                                                                  cases e182
                                                                  replace hx182_0 := (HB.out.cell (World.block_lt_of_cell? w _ hx182_0)).trans hx182_0
                                                                  replace hx182_1 := (HB.out.cell (World.block_lt_of_cell? w _ hx182_1)).trans hx182_1
                                                                  replace hx182_2 := (HB.out.cell (World.block_lt_of_cell? w _ hx182_2)).trans hx182_2
                                                                  replace hx182_3 := (HB.out.cell (World.block_lt_of_cell? w _ hx182_3)).trans hx182_3
                                                                  (try simp only [Go.IntWalk.toNatUp] at hx182_0)
                                                                  (try simp only [Go.IntWalk.toNatUp] at hx182_1)
                                                                  (try simp only [Go.IntWalk.toNatUp] at hx182_2)
                                                                  (try simp only [Go.IntWalk.toNatUp] at hx182_3)
                                                                  (try simp only [hl12_5] at p182)
                                                                  (try simp only [hl12_5] at q182)
                                                                  (try simp only [hl12_5] at hx182_0)
                                                                  (try simp only [hl12_5] at hx182_1)
                                                                  (try simp only [hl12_5] at hx182_2)
                                                                  (try simp only [hl12_5] at hx182_3)
                                                                  replace p182 := eq_true p182
                                                                  replace q182 := eq_true q182
                                                                  obtain ⟨Ao89, co89, eo89⟩ := Kd.R_slice HO_12.out
                                                                  subst eo89
                                                                  obtain ⟨Ao90, co90, eo90⟩ := Kd.R_slice HO_11.out
                                                                  subst eo90
                                                                  go_wp2
                                                                  repeat (go_quiet (fail); try go_wp2)
                                                                  go_ret
                                                                  exact ⟨by first | rfl | (simp [errW_none, errW_some] <;> rfl) | (simp only [← hji82]; first | rfl | (simp [errW_none, errW_some] <;> rfl)) | (simp [*, errW_none, errW_some] <;> rfl), below_step HB0.out (by repeat (first | (with_reducible first | exact HB.out | apply below_alloc | apply pw_below_drewN | apply below_drew1) | exact HB.out))⟩
                                                                · rw [if_neg c87] at H
                                                                  have c87b0 : (((rd_T26 y178 (y145.length : Int)).f0) == (-77)) = false := beq_eq_false_iff_ne.mpr c87
                                                                  have c87b1 : (((rd_T26 y178 (y145.length : Int)).f0) != (-77)) = true := bne_iff_ne.mpr c87
                                                                  obtain rfl := Option.some.inj H
                                                                  have q91 : ((ji82) : Int) ≤ ((y142.length : Int) : Int) := of_decide_eq_true (by first | (with_reducible assumption) | assumption)
                                                                  obtain ⟨i091, hi091, _, hsz91, _⟩ := info_parts info26
                                                                  have hroom91 : y142.length ≤ co21 := HQ149.out
                                                                  have hC91 : Kd.C k26 _ Ao21 y142.length y142 := HR149.out
                                                                  have hcut91 := cut_up (P := Try.prog) 22 26 .i64 Try.underlying22 hi091 Ao21 y145.length co21 (ji82) (of_decide_eq_true (by first | (with_reducible assumption) | assumption)) (by omega)
                                                                  have hr91 := Kd.C_take (m := ((ji82) : Int).toNat) hC91 (by omega)
                                                                  have hy91 : y178.length = ((ji82) : Int).toNat := (by rw [Ny178.out, List.length_take]; omega)
                                                                  rw [← Ny178.out] at hr91
                                                                  rw [← hy91] at hcut91
                                                                  have HR181 := Aside0.mk hr91
                                                                  have HC181 := Aside0.mk (show y178.length ≤ co21 from by omega)
                                                                  clear hr91 hC91 hroom91 hi091 hsz91
                                                                  have KY91 := Aside0.mk hy91
                                                                  clear hy91
                                                                  replace q91 := eq_true q91
                                                                  have p182 : 0 ≤ ((y145.length : Int) : Int) := of_decide_eq_true (by first | (with_reducible assumption) | assumption)
                                                                  have q182 : (y145.length : Int) < (y178.length : Int) := of_decide_eq_true (by first | (with_reducible assumption) | assumption)
                                                                  obtain ⟨ad182, e182, hx182_0, hx182_1, hx182_2, hx182_3⟩ := at_T26 HR181.out (y145.length : Int) p182 q182
                                                                  cases e182
                                                                  replace hx182_0 := (HB.out.cell (World.block_lt_of_cell? w _ hx182_0)).trans hx182_0
                                                                  replace hx182_1 := (HB.out.cell (World.block_lt_of_cell? w _ hx182_1)).trans hx182_1
                                                                  replace hx182_2 := (HB.out.cell (World.block_lt_of_cell? w _ hx182_2)).trans hx182_2
                                                                  replace hx182_3 := (HB.out.cell (World.block_lt_of_cell? w _ hx182_3)).trans hx182_3
                                                                  (try simp only [Go.IntWalk.toNatUp] at hx182_0)
                                                                  (try simp only [Go.IntWalk.toNatUp] at hx182_1)
                                                                  (try simp only [Go.IntWalk.toNatUp] at hx182_2)
                                                                  (try simp only [Go.IntWalk.toNatUp] at hx182_3)
                                                                  (try simp only [hl12_5] at p182)
                                                                  (try simp only [hl12_5] at q182)
                                                                  (try simp only [hl12_5] at hx182_0)
                                                                  (try simp only [hl12_5] at hx182_1)
                                                                  (try simp only [hl12_5] at hx182_2)
                                                                  (try simp only [hl12_5] at hx182_3)
                                                                  replace p182 := eq_true p182
                                                                  replace q182 := eq_true q182
                                                                  go_wp2
                                                                  repeat (go_quiet (fail); try go_wp2)
                                                                  go_ret
                                                                  exact ⟨by first | rfl | (simp [errW_none, errW_some] <;> rfl) | (simp only [← hji82]; first | rfl | (simp [errW_none, errW_some] <;> rfl)) | (simp [*, errW_none, errW_some] <;> rfl), below_step HB0.out (by repeat (first | (with_reducible first | exact HB.out | apply below_alloc | apply pw_below_drewN | apply below_drew1) | exact HB.out))⟩
                                                              · rw [if_neg c86] at H
                                                                exact absurd H (by simp)
                                                            · rw [if_neg c85] at H
                                                              exact absurd H (by simp)
                                                          · rw [if_neg c84] at H
                                                            exact absurd H (by simp)
                                                        · rw [if_neg c83] at H
                                                          exact absurd H (by simp)
                                          · rw [if_neg c67] at H
                                            exact absurd H (by simp)
                                  · rw [if_neg c59] at H
                                    have c59b0 : (t171 == x14_4) = false := beq_eq_false_iff_ne.mpr c59
                                    have c59b1 : (t171 != x14_4) = true := bne_iff_ne.mpr c59
                                    obtain rfl := Option.some.inj H
                                    go_wp2_with (first | (go_at_call 11; (with_reducible refine (pump_Sum.calls k4 _ _ t158 t171 _ ?side1 ?side2 A58.out).mono ?_); (case side1 => repeat (first | exact (Kd.R_reads' HO_12.out).2.2 | (with_reducible refine Kd.C_alloc ?_ _) | (with_reducible refine Kd.C_drewN ?_ _) | (with_reducible refine Kd.C_drew ?_))); (case side2 => exact (Kd.R_reads' HO_12.out).2.1); rintro e w92 ⟨rfl, hb⟩; have n0_ := Aside0.mk (Kd.R_below (by (with_reducible repeat (first | apply Kd.R_alloc | apply Kd.R_drewN | apply Kd.R_drew)); exact HO_11.out) hb); have n1_ := Aside0.mk (Kd.R_below (by (with_reducible repeat (first | apply Kd.R_alloc | apply Kd.R_drewN | apply Kd.R_drew)); exact HO_12.out) hb); have n2_ := Aside0.mk (Kd.R_below (by (with_reducible repeat (first | apply Kd.R_alloc | apply Kd.R_drewN | apply Kd.R_drew)); exact HO_13.out) hb); have n3_ := Aside0.mk (below_step (by repeat (first | (with_reducible first | exact HB.out | apply below_alloc | apply pw_below_drewN | apply below_drew1) | exact HB.out)) hb); clear HO_11; clear HO_12; clear HO_13; clear HB; have HO_11 := n0_; have HO_12 := n1_; have HO_13 := n2_; have HB := n3_; clear n0_ n1_ n2_ n3_; (try clear hb); (try clear hb2); (try clear hk); (try clear hi)))
                                    repeat (go_quiet (first | (go_at_call 11; (with_reducible refine (pump_Sum.calls k4 _ _ t158 t171 _ ?side1 ?side2 A58.out).mono ?_); (case side1 => repeat (first | exact (Kd.R_reads' HO_12.out).2.2 | (with_reducible refine Kd.C_alloc ?_ _) | (with_reducible refine Kd.C_drewN ?_ _) | (with_reducible refine Kd.C_drew ?_))); (case side2 => exact (Kd.R_reads' HO_12.out).2.1); rintro e w92 ⟨rfl, hb⟩; have n0_ := Aside0.mk (Kd.R_below (by (with_reducible repeat (first | apply Kd.R_alloc | apply Kd.R_drewN | apply Kd.R_drew)); exact HO_11.out) hb); have n1_ := Aside0.mk (Kd.R_below (by (with_reducible repeat (first | apply Kd.R_alloc | apply Kd.R_drewN | apply Kd.R_drew)); exact HO_12.out) hb); have n2_ := Aside0.mk (Kd.R_below (by (with_reducible repeat (first | apply Kd.R_alloc | apply Kd.R_drewN | apply Kd.R_drew)); exact HO_13.out) hb); have n3_ := Aside0.mk (below_step (by repeat (first | (with_reducible first | exact HB.out | apply below_alloc | apply pw_below_drewN | apply below_drew1) | exact HB.out)) hb); clear HO_11; clear HO_12; clear HO_13; clear HB; have HO_11 := n0_; have HO_12 := n1_; have HO_13 := n2_; have HB := n3_; clear n0_ n1_ n2_ n3_; (try clear hb); (try clear hb2); (try clear hk); (try clear hi))); try go_wp2_with (first | (go_at_call 11; (with_reducible refine (pump_Sum.calls k4 _ _ t158 t171 _ ?side1 ?side2 A58.out).mono ?_); (case side1 => repeat (first | exact (Kd.R_reads' HO_12.out).2.2 | (with_reducible refine Kd.C_alloc ?_ _) | (with_reducible refine Kd.C_drewN ?_ _) | (with_reducible refine Kd.C_drew ?_))); (case side2 => exact (Kd.R_reads' HO_12.out).2.1); rintro e w92 ⟨rfl, hb⟩; have n0_ := Aside0.mk (Kd.R_below (by (with_reducible repeat (first | apply Kd.R_alloc | apply Kd.R_drewN | apply Kd.R_drew)); exact HO_11.out) hb); have n1_ := Aside0.mk (Kd.R_below (by (with_reducible repeat (first | apply Kd.R_alloc | apply Kd.R_drewN | apply Kd.R_drew)); exact HO_12.out) hb); have n2_ := Aside0.mk (Kd.R_below (by (with_reducible repeat (first | apply Kd.R_alloc | apply Kd.R_drewN | apply Kd.R_drew)); exact HO_13.out) hb); have n3_ := Aside0.mk (below_step (by repeat (first | (with_reducible first | exact HB.out | apply below_alloc | apply pw_below_drewN | apply below_drew1) | exact HB.out)) hb); clear HO_11; clear HO_12; clear HO_13; clear HB; have HO_11 := n0_; have HO_12 := n1_; have HO_13 := n2_; have HB := n3_; clear n0_ n1_ n2_ n3_; (try clear hb); (try clear hb2); (try clear hk); (try clear hi))))
                                    go_ret
                                    exact ⟨by first | rfl | (simp [errW_none, errW_some] <;> rfl) | (simp [*, errW_none, errW_some] <;> rfl), below_step HB0.out (by repeat (first | (with_reducible first | exact HB.out | apply below_alloc | apply pw_below_drewN | apply below_drew1) | exact HB.out))⟩
              · rw [if_neg c17] at H
                exact absurd H (by simp)
            · rw [if_neg c16] at H
              exact absurd H (by simp)
          · rw [if_neg c15] at H
            exact absurd H (by simp)
        · rw [if_neg c14] at H
          exact absurd H (by simp)

theorem bywashlaw16_PumpTells.calls (k : Nat) (a0 : Int) (a1 : Int) (A2 : Option Addr) (c2 : Nat) (l2 : List (S26)) (r : Bool) (w : World) (hr2 : Kd.C k26 w A2 l2.length l2) (hc2 : l2.length ≤ c2) (h : bywashlaw16_PumpTells.f k a0 a1 l2 = some r) :
    Calls Try.prog 3 #[.int .i64 a0, .int .i64 a1, .slice A2 l2.length c2] w fun e w' => e = .returned (.bool r) ∧ Below w.heap.size w w' := bywashlaw16_PumpTells.callsA k a0 a1 A2 c2 l2 r w hr2 hc2 h

end Go.Proofs.Ytndchendimbfnaa.PPumpTells
