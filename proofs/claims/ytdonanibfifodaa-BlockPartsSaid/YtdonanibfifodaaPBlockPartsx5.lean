-- Written by a program of this session (the kit's printer, turned): the functions that the law reaches.
import Derived.Test.YtdonanibfifodaaPBlockPartsx0
import Derived.Test.YtdonanibfifodaaPBlockPartsx1
import Derived.Test.YtdonanibfifodaaPBlockPartsx4
namespace Go.Proofs.Ytdonanibfifodaa.PBlockParts
open Go.RowKit Go.Proofs.YtdonanibfifodaaW.PrintWords Go.Proofs.YtdonanibfifodaaW.PrintLast Go.Proofs.YtdonanibfifodaaW.PrintMore
attribute [local go_sem] max2_int min2_int max_two min_two max_three min_three max_four min_four   -- for this text's walks alone
set_option linter.unusedVariables false
set_option linter.unusedSimpArgs false

theorem bne_nil2_ (l : List UInt8) : (l != ([] : List UInt8)) = !l.isEmpty := by cases l <;> rfl

/-! ### bywashlaw11_BlockParts: function 5 -/
mutual
def bywashlaw11_BlockParts.j0 : Nat → Int → ByteArray → Bool → Int → Bool → Option (Bool)
  | 0, _, _, _, _, _ => none
  | k + 1, x0, x1, x2, x3, x21 => if x21 = true then ((bywashlaw11_alive.f k).bind fun t184 => (some t184)) else ((block_Cut.f k x0 x1 x2 x3).bind fun bt185 => (if bt185.2 = true then (bywashlaw11_BlockParts.l0 k x0 x1 x2 x3 bt185.1 bt185.1 (bt185.1.length : Int) 0) else (if (bt185.1.length : Int) = 0 then (if x0 < 1 then (some true) else (if x0 > 2147483647 then (some true) else (if x3 < 64 then (some true) else (some (decide (x3 > 512)))))) else (some false))))
def bywashlaw11_BlockParts.l0 : Nat → Int → ByteArray → Bool → Int → List (S39) → List (S39) → Int → Int → Option (Bool)
  | 0, _, _, _, _, _, _, _, _ => none
  | k + 1, x0, x1, x2, x3, x9, x52, x53, x54 => if x54 < x53 then (if 0 ≤ x54 then (if x54 < (x52.length : Int) then (if x54 = 0 then (bywashlaw11_BlockParts.j2 k x0 x1 x2 x3 x9 x54 (x54 == (wrap64 ((x9.length : Int) - 1))) 0 x52 x53 x54 x2 ((rd_T39 x52 x54).f0) ((rd_T39 x52 x54).f1) ((rd_T39 x52 x54).f2) ((rd_T39 x52 x54).f3)) else (bywashlaw11_BlockParts.j2 k x0 x1 x2 x3 x9 x54 (x54 == (wrap64 ((x9.length : Int) - 1))) 0 x52 x53 x54 false ((rd_T39 x52 x54).f0) ((rd_T39 x52 x54).f1) ((rd_T39 x52 x54).f2) ((rd_T39 x52 x54).f3))) else (none)) else (none)) else (if x3 = 0 then (none) else (some ((x9.length : Int) == (mx (wrap64 (Int.tdiv (wrap64 ((wrap64 ((x1.size : Int) + x3)) - 1)) x3)) 1))))
def bywashlaw11_BlockParts.j2 : Nat → Int → ByteArray → Bool → Int → List (S39) → Int → Bool → Int → List (S39) → Int → Int → Bool → Int → Int → Int → ByteArray → Option (Bool)
  | 0, _, _, _, _, _, _, _, _, _, _, _, _, _, _, _, _ => none
  | k + 1, x0, x1, x2, x3, x9, x11, x13, x14, x52, x53, x54, x68, x191000, x191001, x191002, x191003 => if x68 = true then (bywashlaw11_BlockParts.j3 k x0 x1 x2 x3 x9 x11 x13 1 x52 x53 x54 x191000 x191001 x191002 x191003) else (bywashlaw11_BlockParts.j3 k x0 x1 x2 x3 x9 x11 x13 x14 x52 x53 x54 x191000 x191001 x191002 x191003)
def bywashlaw11_BlockParts.j3 : Nat → Int → ByteArray → Bool → Int → List (S39) → Int → Bool → Int → List (S39) → Int → Int → Int → Int → Int → ByteArray → Option (Bool)
  | 0, _, _, _, _, _, _, _, _, _, _, _, _, _, _, _ => none
  | k + 1, x0, x1, x2, x3, x9, x11, x13, x14, x52, x53, x54, x191000, x191001, x191002, x191003 => if x13 = true then (bywashlaw11_BlockParts.j4 k x0 x1 x2 x3 x9 x11 x13 (Go.bits .or .i64 x14 4) x52 x53 x54 x191000 x191001 x191002 x191003) else (bywashlaw11_BlockParts.j4 k x0 x1 x2 x3 x9 x11 x13 x14 x52 x53 x54 x191000 x191001 x191002 x191003)
def bywashlaw11_BlockParts.j4 : Nat → Int → ByteArray → Bool → Int → List (S39) → Int → Bool → Int → List (S39) → Int → Int → Int → Int → Int → ByteArray → Option (Bool)
  | 0, _, _, _, _, _, _, _, _, _, _, _, _, _, _, _ => none
  | k + 1, x0, x1, x2, x3, x9, x11, x13, x14, x52, x53, x54, x191000, x191001, x191002, x191003 => if x191002 = x0 then (if x191000 = 1 then (if x11 = 0 then (if x11 > 0 then (if x191000 = 9 then (if x191001 = x14 then (if x13 = true then (if (x191003.size : Int) > x3 then (bywashlaw11_BlockParts.j5 k x0 x1 x2 x3 x9 x52 x53 x54 true) else (if x191003.toList = ([] : List UInt8) then (bywashlaw11_BlockParts.j5 k x0 x1 x2 x3 x9 x52 x53 x54 (x1.toList != ([] : List UInt8))) else (bywashlaw11_BlockParts.j5 k x0 x1 x2 x3 x9 x52 x53 x54 false))) else (if (x191003.size : Int) = x3 then (bywashlaw11_BlockParts.j5 k x0 x1 x2 x3 x9 x52 x53 x54 false) else (bywashlaw11_BlockParts.j5 k x0 x1 x2 x3 x9 x52 x53 x54 true))) else (bywashlaw11_BlockParts.j5 k x0 x1 x2 x3 x9 x52 x53 x54 true)) else (bywashlaw11_BlockParts.j5 k x0 x1 x2 x3 x9 x52 x53 x54 true)) else (if x191001 = x14 then (if x13 = true then (if (x191003.size : Int) > x3 then (bywashlaw11_BlockParts.j5 k x0 x1 x2 x3 x9 x52 x53 x54 true) else (if x191003.toList = ([] : List UInt8) then (bywashlaw11_BlockParts.j5 k x0 x1 x2 x3 x9 x52 x53 x54 (x1.toList != ([] : List UInt8))) else (bywashlaw11_BlockParts.j5 k x0 x1 x2 x3 x9 x52 x53 x54 false))) else (if (x191003.size : Int) = x3 then (bywashlaw11_BlockParts.j5 k x0 x1 x2 x3 x9 x52 x53 x54 false) else (bywashlaw11_BlockParts.j5 k x0 x1 x2 x3 x9 x52 x53 x54 true))) else (bywashlaw11_BlockParts.j5 k x0 x1 x2 x3 x9 x52 x53 x54 true))) else (bywashlaw11_BlockParts.j5 k x0 x1 x2 x3 x9 x52 x53 x54 true)) else (if x11 = 0 then (bywashlaw11_BlockParts.j5 k x0 x1 x2 x3 x9 x52 x53 x54 true) else (if x11 > 0 then (if x191000 = 9 then (if x191001 = x14 then (if x13 = true then (if (x191003.size : Int) > x3 then (bywashlaw11_BlockParts.j5 k x0 x1 x2 x3 x9 x52 x53 x54 true) else (if x191003.toList = ([] : List UInt8) then (bywashlaw11_BlockParts.j5 k x0 x1 x2 x3 x9 x52 x53 x54 (x1.toList != ([] : List UInt8))) else (bywashlaw11_BlockParts.j5 k x0 x1 x2 x3 x9 x52 x53 x54 false))) else (if (x191003.size : Int) = x3 then (bywashlaw11_BlockParts.j5 k x0 x1 x2 x3 x9 x52 x53 x54 false) else (bywashlaw11_BlockParts.j5 k x0 x1 x2 x3 x9 x52 x53 x54 true))) else (bywashlaw11_BlockParts.j5 k x0 x1 x2 x3 x9 x52 x53 x54 true)) else (bywashlaw11_BlockParts.j5 k x0 x1 x2 x3 x9 x52 x53 x54 true)) else (if x191001 = x14 then (if x13 = true then (if (x191003.size : Int) > x3 then (bywashlaw11_BlockParts.j5 k x0 x1 x2 x3 x9 x52 x53 x54 true) else (if x191003.toList = ([] : List UInt8) then (bywashlaw11_BlockParts.j5 k x0 x1 x2 x3 x9 x52 x53 x54 (x1.toList != ([] : List UInt8))) else (bywashlaw11_BlockParts.j5 k x0 x1 x2 x3 x9 x52 x53 x54 false))) else (if (x191003.size : Int) = x3 then (bywashlaw11_BlockParts.j5 k x0 x1 x2 x3 x9 x52 x53 x54 false) else (bywashlaw11_BlockParts.j5 k x0 x1 x2 x3 x9 x52 x53 x54 true))) else (bywashlaw11_BlockParts.j5 k x0 x1 x2 x3 x9 x52 x53 x54 true))))) else (bywashlaw11_BlockParts.j5 k x0 x1 x2 x3 x9 x52 x53 x54 true)
def bywashlaw11_BlockParts.j5 : Nat → Int → ByteArray → Bool → Int → List (S39) → List (S39) → Int → Int → Bool → Option (Bool)
  | 0, _, _, _, _, _, _, _, _, _ => none
  | k + 1, x0, x1, x2, x3, x9, x52, x53, x54, x128 => if x128 = true then (some false) else (bywashlaw11_BlockParts.l0 k x0 x1 x2 x3 x9 x52 x53 (wrap64 (x54 + 1)))
end
def bywashlaw11_BlockParts.f (k : Nat) (a0 : Int) (a1 : ByteArray) (a2 : Bool) (a3 : Int) : Option (Bool) := if (a1.size : Int) > 3000 then (bywashlaw11_BlockParts.j0 k a0 a1 a2 a3 true) else ((bywashlaw11_alive.f k).bind fun t183 => (bywashlaw11_BlockParts.j0 k a0 a1 a2 a3 (!t183)))
theorem bywashlaw11_BlockParts.mono_l : ∀ k, (∀ y0 y1 y2 y3 y4, LeO (bywashlaw11_BlockParts.j0 k y0 y1 y2 y3 y4) (bywashlaw11_BlockParts.j0 (k + 1) y0 y1 y2 y3 y4)) ∧ (∀ y0 y1 y2 y3 y4 y5 y6 y7, LeO (bywashlaw11_BlockParts.l0 k y0 y1 y2 y3 y4 y5 y6 y7) (bywashlaw11_BlockParts.l0 (k + 1) y0 y1 y2 y3 y4 y5 y6 y7)) ∧ (∀ y0 y1 y2 y3 y4 y5 y6 y7 y8 y9 y10 y11 y12 y13 y14 y15, LeO (bywashlaw11_BlockParts.j2 k y0 y1 y2 y3 y4 y5 y6 y7 y8 y9 y10 y11 y12 y13 y14 y15) (bywashlaw11_BlockParts.j2 (k + 1) y0 y1 y2 y3 y4 y5 y6 y7 y8 y9 y10 y11 y12 y13 y14 y15)) ∧ (∀ y0 y1 y2 y3 y4 y5 y6 y7 y8 y9 y10 y11 y12 y13 y14, LeO (bywashlaw11_BlockParts.j3 k y0 y1 y2 y3 y4 y5 y6 y7 y8 y9 y10 y11 y12 y13 y14) (bywashlaw11_BlockParts.j3 (k + 1) y0 y1 y2 y3 y4 y5 y6 y7 y8 y9 y10 y11 y12 y13 y14)) ∧ (∀ y0 y1 y2 y3 y4 y5 y6 y7 y8 y9 y10 y11 y12 y13 y14, LeO (bywashlaw11_BlockParts.j4 k y0 y1 y2 y3 y4 y5 y6 y7 y8 y9 y10 y11 y12 y13 y14) (bywashlaw11_BlockParts.j4 (k + 1) y0 y1 y2 y3 y4 y5 y6 y7 y8 y9 y10 y11 y12 y13 y14)) ∧ (∀ y0 y1 y2 y3 y4 y5 y6 y7 y8, LeO (bywashlaw11_BlockParts.j5 k y0 y1 y2 y3 y4 y5 y6 y7 y8) (bywashlaw11_BlockParts.j5 (k + 1) y0 y1 y2 y3 y4 y5 y6 y7 y8))
  | 0 => ⟨fun _ _ _ _ _ r h => by simp [bywashlaw11_BlockParts.j0] at h, fun _ _ _ _ _ _ _ _ r h => by simp [bywashlaw11_BlockParts.l0] at h, fun _ _ _ _ _ _ _ _ _ _ _ _ _ _ _ _ r h => by simp [bywashlaw11_BlockParts.j2] at h, fun _ _ _ _ _ _ _ _ _ _ _ _ _ _ _ r h => by simp [bywashlaw11_BlockParts.j3] at h, fun _ _ _ _ _ _ _ _ _ _ _ _ _ _ _ r h => by simp [bywashlaw11_BlockParts.j4] at h, fun _ _ _ _ _ _ _ _ _ r h => by simp [bywashlaw11_BlockParts.j5] at h⟩
  | k + 1 => by
    obtain ⟨ih0, ih1, ih2, ih3, ih4, ih5⟩ := bywashlaw11_BlockParts.mono_l k
    refine ⟨?_, ?_, ?_, ?_, ?_, ?_⟩
    · intro y0 y1 y2 y3 y4
      unfold bywashlaw11_BlockParts.j0
      repeat' first
      | (with_reducible exact ih0 _ _ _ _ _)
      | (with_reducible exact ih1 _ _ _ _ _ _ _ _)
      | (with_reducible exact ih2 _ _ _ _ _ _ _ _ _ _ _ _ _ _ _ _)
      | (with_reducible exact ih3 _ _ _ _ _ _ _ _ _ _ _ _ _ _ _)
      | (with_reducible exact ih4 _ _ _ _ _ _ _ _ _ _ _ _ _ _ _)
      | (with_reducible exact ih5 _ _ _ _ _ _ _ _ _)
      | (with_reducible exact block_Cut.mono _ _ _ _ _)
      | (with_reducible exact bywashlaw11_alive.mono _)
      | (with_reducible exact LeO.refl _)
      | (with_reducible exact LeO.none _)
      | (with_reducible refine LeO.ite ?_ ?_)
      | (with_reducible refine LeO.bind ?_ (fun _ => ?_))
      | exact ih0 _ _ _ _ _
      | exact ih1 _ _ _ _ _ _ _ _
      | exact ih2 _ _ _ _ _ _ _ _ _ _ _ _ _ _ _ _
      | exact ih3 _ _ _ _ _ _ _ _ _ _ _ _ _ _ _
      | exact ih4 _ _ _ _ _ _ _ _ _ _ _ _ _ _ _
      | exact ih5 _ _ _ _ _ _ _ _ _
      | exact block_Cut.mono _ _ _ _ _
      | exact bywashlaw11_alive.mono _
      | exact LeO.none _
      | refine LeO.ite ?_ ?_
      | refine LeO.bind ?_ (fun _ => ?_)
    · intro y0 y1 y2 y3 y4 y5 y6 y7
      unfold bywashlaw11_BlockParts.l0
      repeat' first
      | (with_reducible exact ih0 _ _ _ _ _)
      | (with_reducible exact ih1 _ _ _ _ _ _ _ _)
      | (with_reducible exact ih2 _ _ _ _ _ _ _ _ _ _ _ _ _ _ _ _)
      | (with_reducible exact ih3 _ _ _ _ _ _ _ _ _ _ _ _ _ _ _)
      | (with_reducible exact ih4 _ _ _ _ _ _ _ _ _ _ _ _ _ _ _)
      | (with_reducible exact ih5 _ _ _ _ _ _ _ _ _)
      | (with_reducible exact block_Cut.mono _ _ _ _ _)
      | (with_reducible exact bywashlaw11_alive.mono _)
      | (with_reducible exact LeO.refl _)
      | (with_reducible exact LeO.none _)
      | (with_reducible refine LeO.ite ?_ ?_)
      | (with_reducible refine LeO.bind ?_ (fun _ => ?_))
      | exact ih0 _ _ _ _ _
      | exact ih1 _ _ _ _ _ _ _ _
      | exact ih2 _ _ _ _ _ _ _ _ _ _ _ _ _ _ _ _
      | exact ih3 _ _ _ _ _ _ _ _ _ _ _ _ _ _ _
      | exact ih4 _ _ _ _ _ _ _ _ _ _ _ _ _ _ _
      | exact ih5 _ _ _ _ _ _ _ _ _
      | exact block_Cut.mono _ _ _ _ _
      | exact bywashlaw11_alive.mono _
      | exact LeO.none _
      | refine LeO.ite ?_ ?_
      | refine LeO.bind ?_ (fun _ => ?_)
    · intro y0 y1 y2 y3 y4 y5 y6 y7 y8 y9 y10 y11 y12 y13 y14 y15
      unfold bywashlaw11_BlockParts.j2
      repeat' first
      | (with_reducible exact ih0 _ _ _ _ _)
      | (with_reducible exact ih1 _ _ _ _ _ _ _ _)
      | (with_reducible exact ih2 _ _ _ _ _ _ _ _ _ _ _ _ _ _ _ _)
      | (with_reducible exact ih3 _ _ _ _ _ _ _ _ _ _ _ _ _ _ _)
      | (with_reducible exact ih4 _ _ _ _ _ _ _ _ _ _ _ _ _ _ _)
      | (with_reducible exact ih5 _ _ _ _ _ _ _ _ _)
      | (with_reducible exact block_Cut.mono _ _ _ _ _)
      | (with_reducible exact bywashlaw11_alive.mono _)
      | (with_reducible exact LeO.refl _)
      | (with_reducible exact LeO.none _)
      | (with_reducible refine LeO.ite ?_ ?_)
      | (with_reducible refine LeO.bind ?_ (fun _ => ?_))
      | exact ih0 _ _ _ _ _
      | exact ih1 _ _ _ _ _ _ _ _
      | exact ih2 _ _ _ _ _ _ _ _ _ _ _ _ _ _ _ _
      | exact ih3 _ _ _ _ _ _ _ _ _ _ _ _ _ _ _
      | exact ih4 _ _ _ _ _ _ _ _ _ _ _ _ _ _ _
      | exact ih5 _ _ _ _ _ _ _ _ _
      | exact block_Cut.mono _ _ _ _ _
      | exact bywashlaw11_alive.mono _
      | exact LeO.none _
      | refine LeO.ite ?_ ?_
      | refine LeO.bind ?_ (fun _ => ?_)
    · intro y0 y1 y2 y3 y4 y5 y6 y7 y8 y9 y10 y11 y12 y13 y14
      unfold bywashlaw11_BlockParts.j3
      repeat' first
      | (with_reducible exact ih0 _ _ _ _ _)
      | (with_reducible exact ih1 _ _ _ _ _ _ _ _)
      | (with_reducible exact ih2 _ _ _ _ _ _ _ _ _ _ _ _ _ _ _ _)
      | (with_reducible exact ih3 _ _ _ _ _ _ _ _ _ _ _ _ _ _ _)
      | (with_reducible exact ih4 _ _ _ _ _ _ _ _ _ _ _ _ _ _ _)
      | (with_reducible exact ih5 _ _ _ _ _ _ _ _ _)
      | (with_reducible exact block_Cut.mono _ _ _ _ _)
      | (with_reducible exact bywashlaw11_alive.mono _)
      | (with_reducible exact LeO.refl _)
      | (with_reducible exact LeO.none _)
      | (with_reducible refine LeO.ite ?_ ?_)
      | (with_reducible refine LeO.bind ?_ (fun _ => ?_))
      | exact ih0 _ _ _ _ _
      | exact ih1 _ _ _ _ _ _ _ _
      | exact ih2 _ _ _ _ _ _ _ _ _ _ _ _ _ _ _ _
      | exact ih3 _ _ _ _ _ _ _ _ _ _ _ _ _ _ _
      | exact ih4 _ _ _ _ _ _ _ _ _ _ _ _ _ _ _
      | exact ih5 _ _ _ _ _ _ _ _ _
      | exact block_Cut.mono _ _ _ _ _
      | exact bywashlaw11_alive.mono _
      | exact LeO.none _
      | refine LeO.ite ?_ ?_
      | refine LeO.bind ?_ (fun _ => ?_)
    · intro y0 y1 y2 y3 y4 y5 y6 y7 y8 y9 y10 y11 y12 y13 y14
      unfold bywashlaw11_BlockParts.j4
      repeat' first
      | (with_reducible exact ih0 _ _ _ _ _)
      | (with_reducible exact ih1 _ _ _ _ _ _ _ _)
      | (with_reducible exact ih2 _ _ _ _ _ _ _ _ _ _ _ _ _ _ _ _)
      | (with_reducible exact ih3 _ _ _ _ _ _ _ _ _ _ _ _ _ _ _)
      | (with_reducible exact ih4 _ _ _ _ _ _ _ _ _ _ _ _ _ _ _)
      | (with_reducible exact ih5 _ _ _ _ _ _ _ _ _)
      | (with_reducible exact block_Cut.mono _ _ _ _ _)
      | (with_reducible exact bywashlaw11_alive.mono _)
      | (with_reducible exact LeO.refl _)
      | (with_reducible exact LeO.none _)
      | (with_reducible refine LeO.ite ?_ ?_)
      | (with_reducible refine LeO.bind ?_ (fun _ => ?_))
      | exact ih0 _ _ _ _ _
      | exact ih1 _ _ _ _ _ _ _ _
      | exact ih2 _ _ _ _ _ _ _ _ _ _ _ _ _ _ _ _
      | exact ih3 _ _ _ _ _ _ _ _ _ _ _ _ _ _ _
      | exact ih4 _ _ _ _ _ _ _ _ _ _ _ _ _ _ _
      | exact ih5 _ _ _ _ _ _ _ _ _
      | exact block_Cut.mono _ _ _ _ _
      | exact bywashlaw11_alive.mono _
      | exact LeO.none _
      | refine LeO.ite ?_ ?_
      | refine LeO.bind ?_ (fun _ => ?_)
    · intro y0 y1 y2 y3 y4 y5 y6 y7 y8
      unfold bywashlaw11_BlockParts.j5
      repeat' first
      | (with_reducible exact ih0 _ _ _ _ _)
      | (with_reducible exact ih1 _ _ _ _ _ _ _ _)
      | (with_reducible exact ih2 _ _ _ _ _ _ _ _ _ _ _ _ _ _ _ _)
      | (with_reducible exact ih3 _ _ _ _ _ _ _ _ _ _ _ _ _ _ _)
      | (with_reducible exact ih4 _ _ _ _ _ _ _ _ _ _ _ _ _ _ _)
      | (with_reducible exact ih5 _ _ _ _ _ _ _ _ _)
      | (with_reducible exact block_Cut.mono _ _ _ _ _)
      | (with_reducible exact bywashlaw11_alive.mono _)
      | (with_reducible exact LeO.refl _)
      | (with_reducible exact LeO.none _)
      | (with_reducible refine LeO.ite ?_ ?_)
      | (with_reducible refine LeO.bind ?_ (fun _ => ?_))
      | exact ih0 _ _ _ _ _
      | exact ih1 _ _ _ _ _ _ _ _
      | exact ih2 _ _ _ _ _ _ _ _ _ _ _ _ _ _ _ _
      | exact ih3 _ _ _ _ _ _ _ _ _ _ _ _ _ _ _
      | exact ih4 _ _ _ _ _ _ _ _ _ _ _ _ _ _ _
      | exact ih5 _ _ _ _ _ _ _ _ _
      | exact block_Cut.mono _ _ _ _ _
      | exact bywashlaw11_alive.mono _
      | exact LeO.none _
      | refine LeO.ite ?_ ?_
      | refine LeO.bind ?_ (fun _ => ?_)
theorem bywashlaw11_BlockParts.mono : ∀ a0 a1 a2 a3 k, LeO (bywashlaw11_BlockParts.f k a0 a1 a2 a3) (bywashlaw11_BlockParts.f (k + 1) a0 a1 a2 a3) := by
  intro a0 a1 a2 a3 k
  obtain ⟨ih0, ih1, ih2, ih3, ih4, ih5⟩ := bywashlaw11_BlockParts.mono_l k
  unfold bywashlaw11_BlockParts.f
  repeat' first
      | (with_reducible exact ih0 _ _ _ _ _)
      | (with_reducible exact ih1 _ _ _ _ _ _ _ _)
      | (with_reducible exact ih2 _ _ _ _ _ _ _ _ _ _ _ _ _ _ _ _)
      | (with_reducible exact ih3 _ _ _ _ _ _ _ _ _ _ _ _ _ _ _)
      | (with_reducible exact ih4 _ _ _ _ _ _ _ _ _ _ _ _ _ _ _)
      | (with_reducible exact ih5 _ _ _ _ _ _ _ _ _)
      | (with_reducible exact block_Cut.mono _ _ _ _ _)
      | (with_reducible exact bywashlaw11_alive.mono _)
      | (with_reducible exact LeO.refl _)
      | (with_reducible exact LeO.none _)
      | (with_reducible refine LeO.ite ?_ ?_)
      | (with_reducible refine LeO.bind ?_ (fun _ => ?_))
      | exact ih0 _ _ _ _ _
      | exact ih1 _ _ _ _ _ _ _ _
      | exact ih2 _ _ _ _ _ _ _ _ _ _ _ _ _ _ _ _
      | exact ih3 _ _ _ _ _ _ _ _ _ _ _ _ _ _ _
      | exact ih4 _ _ _ _ _ _ _ _ _ _ _ _ _ _ _
      | exact ih5 _ _ _ _ _ _ _ _ _
      | exact block_Cut.mono _ _ _ _ _
      | exact bywashlaw11_alive.mono _
      | exact LeO.none _
      | refine LeO.ite ?_ ?_
      | refine LeO.bind ?_ (fun _ => ?_)
set_option maxHeartbeats 8000000 in
set_option maxRecDepth 100000 in
theorem bywashlaw11_BlockParts.calls (k : Nat) (a0 : Int) (a1 : ByteArray) (a2 : Bool) (a3 : Int) (r : Bool) (w : World) (h : bywashlaw11_BlockParts.f k a0 a1 a2 a3 = some r) :
    Calls Try.prog 5 #[.int .i64 a0, .string a1, .bool a2, .int .i64 a3] w fun e w' => e = .returned (.bool r) ∧ Below w.heap.size w w' := by
  have hfs41_0 : ∀ (v0_ : Int) (v1_ : ByteArray) (v2_ : Bool) (W_ : World), (Instr.field 41 (.agg #[.int .i64 v0_, .string v1_, .bool v2_]) 0).run Try.prog W_ = .ok (.int .i64 v0_) W_ := fun v0_ v1_ v2_ _ => by kernel_rfl
  have hfs41_1 : ∀ (v0_ : Int) (v1_ : ByteArray) (v2_ : Bool) (W_ : World), (Instr.field 41 (.agg #[.int .i64 v0_, .string v1_, .bool v2_]) 1).run Try.prog W_ = .ok (.string v1_) W_ := fun v0_ v1_ v2_ _ => by kernel_rfl
  have hfs41_2 : ∀ (v0_ : Int) (v1_ : ByteArray) (v2_ : Bool) (W_ : World), (Instr.field 41 (.agg #[.int .i64 v0_, .string v1_, .bool v2_]) 2).run Try.prog W_ = .ok (.bool v2_) W_ := fun v0_ v1_ v2_ _ => by kernel_rfl
  have hu39 := Try.underlying39
  have HB := Aside0.mk (Below.refl w.heap.size w)
  have H : (if (a1.size : Int) > 3000 then (bywashlaw11_BlockParts.j0 k a0 a1 a2 a3 true) else ((bywashlaw11_alive.f k).bind fun t183 => (bywashlaw11_BlockParts.j0 k a0 a1 a2 a3 (!t183)))) = some r := h
  clear h
  have HC5 := Aside0.mk H
  clear H
  go_enter Try.func5, Try.ntmps5
  go_upto_region 1 with (fail)
  go_cut [21] (fun v21 wc => ∃ (kq : Nat) (x21_4 : Bool), v21 = .bool x21_4 ∧ Aside0 (bywashlaw11_BlockParts.j0 kq a0 a1 a2 a3 x21_4 = some r) ∧ Aside0 (kq ≤ k) ∧ Aside0 (Below w.heap.size w wc))
  case first =>
    have H := HC5.out
    clear HC5
    by_cases c6 : (a1.size : Int) > 3000
    · rw [if_pos c6] at H
      have c6b0 : decide (3000 < (a1.size : Int)) = true := decide_eq_true c6
      have c6b1 : decide (3000 < a1.size) = true := decide_eq_true (by omega)
      clear c6
      (first | rw [c6b0] | (simp only [i64_w, i32_w]; rw [c6b0]) | skip)
      have H' := Aside0.mk H
      clear H
      go_wp2
      go_meet
      case rel => exact ⟨_, (true), (by first | rfl | (simp; done) | (simp [*]; done)), H', ⟨by first | omega | exact Nat.le_refl _⟩, ⟨by repeat (first | (with_reducible first | exact HB.out | apply below_alloc | apply pw_below_drewN | apply below_drew1) | exact HB.out)⟩⟩
    · rw [if_neg c6] at H
      have c6b0 : decide (3000 < (a1.size : Int)) = false := decide_eq_false c6
      have c6b1 : decide (3000 < a1.size) = false := decide_eq_false (by omega)
      clear c6
      (first | rw [c6b0] | (simp only [i64_w, i32_w]; rw [c6b0]) | skip)
      replace H := Option.bind_eq_some_iff.mp H
      obtain ⟨t183, A70, H⟩ := H
      replace H : (bywashlaw11_BlockParts.j0 k a0 a1 a2 a3 (!t183)) = some r := H
      have A7 := Aside0.mk A70
      clear A70
      have H' := Aside0.mk H
      clear H
      go_wp2_with (first | (go_at_call 10; (with_reducible refine (bywashlaw11_alive.calls k  t183 _ A7.out).mono ?_); rintro e w8 ⟨rfl, hb⟩; have n0_ := Aside0.mk (below_step (by repeat (first | (with_reducible first | exact HB.out | apply below_alloc | apply pw_below_drewN | apply below_drew1) | exact HB.out)) hb); clear HB; have HB := n0_; clear n0_; (try clear hb); (try clear hb2); (try clear hk); (try clear hi)))
      go_meet
      case rel => exact ⟨_, (!t183), (by first | rfl | (simp; done) | (simp [*]; done)), H', ⟨by first | omega | exact Nat.le_refl _⟩, ⟨by repeat (first | (with_reducible first | exact HB.out | apply below_alloc | apply pw_below_drewN | apply below_drew1) | exact HB.out)⟩⟩
  case rest =>
    clear HC5
    try clear p2
    try clear c5
    try clear c6
    try clear c6b0
    try clear c6b1
    obtain ⟨kq, x21_4, rfl, HA, HJ4, HB⟩ := hcut
    cases kq with
    | zero => exact absurd HA.out (by simp [bywashlaw11_BlockParts.j0])
    | succ kj4 =>
      have H := HA.out
      clear HA
      simp only [bywashlaw11_BlockParts.j0] at H
      by_cases c9 : x21_4 = true
      · subst c9
        have H1 : ((bywashlaw11_alive.f kj4).bind fun t184 => (some t184)) = some r := by rw [if_pos rfl] at H; exact H
        clear H
        have H := H1
        clear H1
        replace H := Option.bind_eq_some_iff.mp H
        obtain ⟨t184, A100, H⟩ := H
        replace H : (some t184) = some r := H
        have A10 := Aside0.mk A100
        clear A100
        obtain rfl := Option.some.inj H
        go_wp2_with (first | ((with_reducible refine gate_callee (f := 10) rfl ?_); refine goesL_ (some 22) rfl rfl Try.func10 (by kernel_rfl) rfl #[] rfl (by (try simp only [List.map_toArray, List.map_cons, List.map_nil]); first | done | rfl | (simp only [List.length_drop, List.length_take]; rfl)) ?_; (with_reducible refine (bywashlaw11_alive.calls kj4  t184 _ A10.out).mono ?_); rintro e w11 ⟨rfl, hb⟩; refine ⟨_, rfl, ?_⟩; have n0_ := Aside0.mk (below_step (by repeat (first | (with_reducible first | exact HB.out | apply below_alloc | apply pw_below_drewN | apply below_drew1) | exact HB.out)) hb); clear HB; have HB := n0_; clear n0_; (try clear hb); (try clear hb2); (try clear hk); (try clear hi)))
        go_ret
        exact ⟨by first | rfl | (simp [errW_none, errW_some] <;> rfl) | (simp [*, errW_none, errW_some] <;> rfl), by repeat (first | (with_reducible first | exact HB.out | apply below_alloc | apply pw_below_drewN | apply below_drew1) | exact HB.out)⟩
      · replace c9 := Bool.eq_false_iff.mpr c9
        subst c9
        have H1 : ((block_Cut.f kj4 a0 a1 a2 a3).bind fun bt185 => (if bt185.2 = true then (bywashlaw11_BlockParts.l0 kj4 a0 a1 a2 a3 bt185.1 bt185.1 (bt185.1.length : Int) 0) else (if (bt185.1.length : Int) = 0 then (if a0 < 1 then (some true) else (if a0 > 2147483647 then (some true) else (if a3 < 64 then (some true) else (some (decide (a3 > 512)))))) else (some false)))) = some r := by rw [if_neg (show ¬ (false = true) by decide)] at H; exact H
        clear H
        have H := H1
        clear H1
        replace H := Option.bind_eq_some_iff.mp H
        obtain ⟨⟨t185, t186⟩, A120, H⟩ := H
        replace H : (if t186 = true then (bywashlaw11_BlockParts.l0 kj4 a0 a1 a2 a3 t185 t185 (t185.length : Int) 0) else (if (t185.length : Int) = 0 then (if a0 < 1 then (some true) else (if a0 > 2147483647 then (some true) else (if a3 < 64 then (some true) else (some (decide (a3 > 512)))))) else (some false))) = some r := H
        have A12 := Aside0.mk A120
        clear A120
        by_cases c13 : t186 = true
        · subst c13
          have H1 : (bywashlaw11_BlockParts.l0 kj4 a0 a1 a2 a3 t185 t185 (t185.length : Int) 0) = some r := by rw [if_pos rfl] at H; exact H
          clear H
          have H := H1
          clear H1
          have H' := Aside0.mk H
          clear H
          go_wp2_with (first | ((with_reducible refine gate_callee (f := 11) rfl ?_); refine goesL_ (some 28) rfl rfl Try.func11 (by kernel_rfl) rfl #[.int .i64 a0, .string a1, .bool a2, .int .i64 a3] rfl (by (try simp only [List.map_toArray, List.map_cons, List.map_nil]); first | done | rfl | (simp only [List.length_drop, List.length_take]; rfl)) ?_; (with_reducible refine (block_Cut.calls kj4 a0 a1 a2 a3 t185 true _ A12.out).mono ?_); rintro e w14 ⟨v187, rfl, ho0, hb⟩; refine ⟨_, rfl, ?_⟩; have n0_ := Aside0.mk (Kd.R_lower ho0 (below_size (by repeat (first | (with_reducible first | exact HB.out | apply below_alloc | apply pw_below_drewN | apply below_drew1) | exact HB.out)))); have n1_ := Aside0.mk (below_step (by repeat (first | (with_reducible first | exact HB.out | apply below_alloc | apply pw_below_drewN | apply below_drew1) | exact HB.out)) hb); clear HB; have HO188 := n0_; have HB := n1_; clear n0_ n1_; (try clear hb); (try clear hb2); (try clear hk); (try clear hi); (try clear ho0); obtain ⟨Ao15, co15, eo15⟩ := Kd.R_slice HO188.out; subst eo15))
          go_loopg [54] kj4 (fun kq v54 w' => ∃ (x54_2 : Int), v54 = .int .i64 x54_2 ∧ Aside0 (bywashlaw11_BlockParts.l0 kq a0 a1 a2 a3 t185 t185 (t185.length : Int) x54_2 = some r) ∧ Aside0 (kq ≤ kj4) ∧ Aside0 (Kd.R k39 39 w' w.heap.size (fun _ => True) (.slice Ao15 t185.length co15) t185) ∧ Aside0 (Kd.R k39 39 w' w.heap.size (fun _ => True) (.slice Ao15 t185.length co15) t185) ∧ Aside0 (Below w.heap.size w w'))
          case atStart => exact ⟨(0), (by first | rfl | (simp; done) | (simp [*]; done)), H', ⟨Nat.le_refl _⟩, ⟨by (with_reducible repeat (first | apply Kd.R_alloc | apply Kd.R_drewN | apply Kd.R_drew)); exact HO188.out⟩, ⟨by (with_reducible repeat (first | apply Kd.R_alloc | apply Kd.R_drewN | apply Kd.R_drew)); exact HO188.out⟩, ⟨by repeat (first | (with_reducible first | exact HB.out | apply below_alloc | apply pw_below_drewN | apply below_drew1) | exact HB.out)⟩⟩
          case round =>
            clear H'
            try clear c1
            try clear p2
            try clear c5
            try clear c6
            try clear c6b0
            try clear c6b1
            try clear c9
            try clear c10
            try clear c11
            try clear c13
            try clear p2
            obtain ⟨x54_2, rfl, HA, HK2, HO_9, HO_52, HB⟩ := hrel
            cases gk with
            | zero => exact absurd HA.out (by simp [bywashlaw11_BlockParts.l0])
            | succ k2 =>
              have H := HA.out
              clear HA
              simp only [bywashlaw11_BlockParts.l0] at H
              by_cases c16 : x54_2 < (t185.length : Int)
              · rw [if_pos c16] at H
                have c16b0 : decide (x54_2 < (t185.length : Int)) = true := decide_eq_true c16
                clear c16
                by_cases c17 : 0 ≤ x54_2
                · rw [if_pos c17] at H
                  have c17b0 : decide (0 ≤ x54_2) = true := decide_eq_true c17
                  clear c17
                  by_cases c18 : x54_2 < (t185.length : Int)
                  · rw [if_pos c18] at H
                    have c18b0 : decide (x54_2 < (t185.length : Int)) = true := decide_eq_true c18
                    clear c18
                    have HC19 := Aside0.mk H
                    clear H
                    have p189 : 0 ≤ (x54_2 : Int) := of_decide_eq_true (by first | (with_reducible assumption) | assumption)
                    have q189 : x54_2 < (t185.length : Int) := of_decide_eq_true (by first | (with_reducible assumption) | assumption)
                    obtain ⟨ad189, e189, hx189_0, hx189_1, hx189_2, hx189_3⟩ := at_T39 (Kd.R_reads' HO_52.out).2.2 x54_2 p189 q189
                    cases e189
                    replace p189 := eq_true p189
                    replace q189 := eq_true q189
                    go_upto_region 11 with (first | ((with_reducible refine gate_dst (N := 12) rfl ?_); (try (refine gate_guard (by rfl) ?_; dsimp only)); refine box_event ?hg (N := 12) ?hd (cs := #[.int .i64 0, .int .i64 0, .int .i64 0, .string (⟨#[]⟩ : ByteArray)]) (t := 39) ?hr ?_; (case hd => rfl); (case hg => rfl); (case hr => first | (go_simp; done) | (go_simp; rfl)); intro gb190 hg w20 hbox hb; have n0_ := Aside0.mk (Kd.R_below (Kd.R_elderB (by (with_reducible repeat (first | apply Kd.R_alloc | apply Kd.R_drewN | apply Kd.R_drew)); exact HO_9.out) gb190 (Nat.le_of_eq hg.symm)) hb); have n1_ := Aside0.mk (Kd.R_below (Kd.R_elderB (by (with_reducible repeat (first | apply Kd.R_alloc | apply Kd.R_drewN | apply Kd.R_drew)); exact HO_52.out) gb190 (Nat.le_of_eq hg.symm)) hb); have n2_ := Aside0.mk (below_step (by repeat (first | (with_reducible first | exact HB.out | apply below_alloc | apply pw_below_drewN | apply below_drew1) | exact HB.out)) hb); have n3_ := Aside0.mk (hbox); have n4_ := Aside0.mk ((by rw [hg]; exact (below_size (by repeat (first | (with_reducible first | exact HB.out | apply below_alloc | apply pw_below_drewN | apply below_drew1) | exact HB.out))) : w.heap.size ≤ gb190)); have n5_ := Aside0.mk ((by rw [hg]; exact (below_size (by repeat (first | (with_reducible first | exact HB.out | apply below_alloc | apply pw_below_drewN | apply below_drew1) | exact HB.out))) : w.heap.size ≤ gb190)); clear HO_9; clear HO_52; clear HB; have HO_9 := n0_; have HO_52 := n1_; have HB := n2_; have BK190 := n3_; have GW190 := n4_; have GE190 := n5_; clear n0_ n1_ n2_ n3_ n4_ n5_; clear hb hbox hg; have hcz21_0 : w20.cell? ⟨gb190, 0, none⟩ = some (.int .i64 0) := (blk_cell BK190.out 0).trans rfl; have hcz21_1 : w20.cell? ⟨gb190, 1, none⟩ = some (.int .i64 0) := (blk_cell BK190.out 1).trans rfl; have hcz21_2 : w20.cell? ⟨gb190, 2, none⟩ = some (.int .i64 0) := (blk_cell BK190.out 2).trans rfl; have hcz21_3 : w20.cell? ⟨gb190, 3, none⟩ = some (.string (⟨#[]⟩ : ByteArray)) := (blk_cell BK190.out 3).trans rfl; have hfz21_0 := blk_frozen BK190.out 0; have hfz21_1 := blk_frozen BK190.out 1; have hfz21_2 := blk_frozen BK190.out 2; have hfz21_3 := blk_frozen BK190.out 3))
                    (try simp only [Act.put, List.setIfInBounds_toArray, List.set_cons_zero, List.set_cons_succ])
                    go_cut [68] (fun v68 wc => ∃ (kq : Nat) (x68_18 : Bool), v68 = .bool x68_18 ∧ Aside0 (bywashlaw11_BlockParts.j2 kq a0 a1 a2 a3 t185 x54_2 (x54_2 == (wrap64 ((t185.length : Int) - 1))) 0 t185 (t185.length : Int) x54_2 x68_18 ((rd_T39 t185 x54_2).f0) ((rd_T39 t185 x54_2).f1) ((rd_T39 t185 x54_2).f2) ((rd_T39 t185 x54_2).f3) = some r) ∧ Aside0 (kq ≤ k2) ∧ Aside0 (Kd.R k39 39 wc w.heap.size (fun k_ => k_ ≠ gb190) (.slice (some ad189) t185.length co15) t185) ∧ Aside0 (Kd.R k39 39 wc w.heap.size (fun k_ => k_ ≠ gb190) (.slice (some ad189) t185.length co15) t185) ∧ Aside0 (wc.heap[gb190]? = some (.cells #[.int .i64 ((rd_T39 t185 x54_2).f0), .int .i64 ((rd_T39 t185 x54_2).f1), .int .i64 ((rd_T39 t185 x54_2).f2), .string ((rd_T39 t185 x54_2).f3)] 39 (0, 0))) ∧ Aside0 (Below w.heap.size w wc))
                    case first =>
                      have H := HC19.out
                      clear HC19
                      by_cases c22 : x54_2 = 0
                      · rw [if_pos c22] at H
                        have c22b0 : (x54_2 == 0) = true := beq_iff_eq.mpr c22
                        have c22b1 : (x54_2 != 0) = false := bne_eq_false_iff_eq.mpr c22
                        clear c22
                        (first | rw [c22b0] | (simp only [i64_w, i32_w]; rw [c22b0]) | skip)
                        have H' := Aside0.mk H
                        clear H
                        go_wp2
                        go_meet
                        case rel => exact ⟨_, (a2), (by first | rfl | (simp; done) | (simp [*]; done)), H', ⟨by have := HJ4.out; have := HK2.out; first | omega | exact Nat.le_refl _⟩, ⟨by (with_reducible repeat (first | apply Kd.R_alloc | apply Kd.R_drewN | apply Kd.R_drew)); exact Kd.R_mono (Kd.R_far (p := ⟨gb190, 3, none⟩) (Kd.R_far (p := ⟨gb190, 2, none⟩) (Kd.R_far (p := ⟨gb190, 1, none⟩) (Kd.R_far (p := ⟨gb190, 0, none⟩) (Kd.R_mono HO_9.out (fun k_ hk => (⟨hk, hk.2⟩ : _ ∧ k_ ≠ gb190))) (fun _ hk => hk.2) (.int .i64 ((rd_T39 t185 x54_2).f0))) (fun _ hk => hk.2) (.int .i64 ((rd_T39 t185 x54_2).f1))) (fun _ hk => hk.2) (.int .i64 ((rd_T39 t185 x54_2).f2))) (fun _ hk => hk.2) (.string ((rd_T39 t185 x54_2).f3))) (fun _ hk => hk.1.2)⟩, ⟨by (with_reducible repeat (first | apply Kd.R_alloc | apply Kd.R_drewN | apply Kd.R_drew)); exact Kd.R_mono (Kd.R_far (p := ⟨gb190, 3, none⟩) (Kd.R_far (p := ⟨gb190, 2, none⟩) (Kd.R_far (p := ⟨gb190, 1, none⟩) (Kd.R_far (p := ⟨gb190, 0, none⟩) (Kd.R_mono HO_52.out (fun k_ hk => (⟨hk, hk.2⟩ : _ ∧ k_ ≠ gb190))) (fun _ hk => hk.2) (.int .i64 ((rd_T39 t185 x54_2).f0))) (fun _ hk => hk.2) (.int .i64 ((rd_T39 t185 x54_2).f1))) (fun _ hk => hk.2) (.int .i64 ((rd_T39 t185 x54_2).f2))) (fun _ hk => hk.2) (.string ((rd_T39 t185 x54_2).f3))) (fun _ hk => hk.1.2)⟩, ⟨by (with_reducible repeat (first | refine blk_drewN ?_ _ | refine blk_drew ?_ | refine blk_alloc ?_ _)); refine blk_put (cs := #[.int .i64 ((rd_T39 t185 x54_2).f0), .int .i64 ((rd_T39 t185 x54_2).f1), .int .i64 ((rd_T39 t185 x54_2).f2), .string (⟨#[]⟩ : ByteArray)]) ?_ 3 _ rfl; (with_reducible repeat (first | refine blk_drewN ?_ _ | refine blk_drew ?_ | refine blk_alloc ?_ _)); refine blk_put (cs := #[.int .i64 ((rd_T39 t185 x54_2).f0), .int .i64 ((rd_T39 t185 x54_2).f1), .int .i64 0, .string (⟨#[]⟩ : ByteArray)]) ?_ 2 _ rfl; (with_reducible repeat (first | refine blk_drewN ?_ _ | refine blk_drew ?_ | refine blk_alloc ?_ _)); refine blk_put (cs := #[.int .i64 ((rd_T39 t185 x54_2).f0), .int .i64 0, .int .i64 0, .string (⟨#[]⟩ : ByteArray)]) ?_ 1 _ rfl; (with_reducible repeat (first | refine blk_drewN ?_ _ | refine blk_drew ?_ | refine blk_alloc ?_ _)); refine blk_put (cs := #[.int .i64 0, .int .i64 0, .int .i64 0, .string (⟨#[]⟩ : ByteArray)]) ?_ 0 _ rfl; (with_reducible repeat (first | refine blk_drewN ?_ _ | refine blk_drew ?_ | refine blk_alloc ?_ _)); exact BK190.out⟩, ⟨by repeat (first | (with_reducible first | exact HB.out | apply below_alloc | apply pw_below_drewN | apply below_drew1 | refine below_set ?_ GE190.out) | exact HB.out)⟩⟩
                      · rw [if_neg c22] at H
                        have c22b0 : (x54_2 == 0) = false := beq_eq_false_iff_ne.mpr c22
                        have c22b1 : (x54_2 != 0) = true := bne_iff_ne.mpr c22
                        (first | rw [c22b0] | (simp only [i64_w, i32_w]; rw [c22b0]) | skip)
                        have H' := Aside0.mk H
                        clear H
                        go_wp2
                        go_meet
                        case rel => exact ⟨_, (false), (by first | rfl | (simp; done) | (simp [*]; done)), H', ⟨by have := HJ4.out; have := HK2.out; first | omega | exact Nat.le_refl _⟩, ⟨by (with_reducible repeat (first | apply Kd.R_alloc | apply Kd.R_drewN | apply Kd.R_drew)); exact Kd.R_mono (Kd.R_far (p := ⟨gb190, 3, none⟩) (Kd.R_far (p := ⟨gb190, 2, none⟩) (Kd.R_far (p := ⟨gb190, 1, none⟩) (Kd.R_far (p := ⟨gb190, 0, none⟩) (Kd.R_mono HO_9.out (fun k_ hk => (⟨hk, hk.2⟩ : _ ∧ k_ ≠ gb190))) (fun _ hk => hk.2) (.int .i64 ((rd_T39 t185 x54_2).f0))) (fun _ hk => hk.2) (.int .i64 ((rd_T39 t185 x54_2).f1))) (fun _ hk => hk.2) (.int .i64 ((rd_T39 t185 x54_2).f2))) (fun _ hk => hk.2) (.string ((rd_T39 t185 x54_2).f3))) (fun _ hk => hk.1.2)⟩, ⟨by (with_reducible repeat (first | apply Kd.R_alloc | apply Kd.R_drewN | apply Kd.R_drew)); exact Kd.R_mono (Kd.R_far (p := ⟨gb190, 3, none⟩) (Kd.R_far (p := ⟨gb190, 2, none⟩) (Kd.R_far (p := ⟨gb190, 1, none⟩) (Kd.R_far (p := ⟨gb190, 0, none⟩) (Kd.R_mono HO_52.out (fun k_ hk => (⟨hk, hk.2⟩ : _ ∧ k_ ≠ gb190))) (fun _ hk => hk.2) (.int .i64 ((rd_T39 t185 x54_2).f0))) (fun _ hk => hk.2) (.int .i64 ((rd_T39 t185 x54_2).f1))) (fun _ hk => hk.2) (.int .i64 ((rd_T39 t185 x54_2).f2))) (fun _ hk => hk.2) (.string ((rd_T39 t185 x54_2).f3))) (fun _ hk => hk.1.2)⟩, ⟨by (with_reducible repeat (first | refine blk_drewN ?_ _ | refine blk_drew ?_ | refine blk_alloc ?_ _)); refine blk_put (cs := #[.int .i64 ((rd_T39 t185 x54_2).f0), .int .i64 ((rd_T39 t185 x54_2).f1), .int .i64 ((rd_T39 t185 x54_2).f2), .string (⟨#[]⟩ : ByteArray)]) ?_ 3 _ rfl; (with_reducible repeat (first | refine blk_drewN ?_ _ | refine blk_drew ?_ | refine blk_alloc ?_ _)); refine blk_put (cs := #[.int .i64 ((rd_T39 t185 x54_2).f0), .int .i64 ((rd_T39 t185 x54_2).f1), .int .i64 0, .string (⟨#[]⟩ : ByteArray)]) ?_ 2 _ rfl; (with_reducible repeat (first | refine blk_drewN ?_ _ | refine blk_drew ?_ | refine blk_alloc ?_ _)); refine blk_put (cs := #[.int .i64 ((rd_T39 t185 x54_2).f0), .int .i64 0, .int .i64 0, .string (⟨#[]⟩ : ByteArray)]) ?_ 1 _ rfl; (with_reducible repeat (first | refine blk_drewN ?_ _ | refine blk_drew ?_ | refine blk_alloc ?_ _)); refine blk_put (cs := #[.int .i64 0, .int .i64 0, .int .i64 0, .string (⟨#[]⟩ : ByteArray)]) ?_ 0 _ rfl; (with_reducible repeat (first | refine blk_drewN ?_ _ | refine blk_drew ?_ | refine blk_alloc ?_ _)); exact BK190.out⟩, ⟨by repeat (first | (with_reducible first | exact HB.out | apply below_alloc | apply pw_below_drewN | apply below_drew1 | refine below_set ?_ GE190.out) | exact HB.out)⟩⟩
                    case rest =>
                      clear HC19
                      try clear c1
                      try clear p1
                      try clear q1
                      try clear hx1
                      try clear c2
                      try clear p2
                      try clear c5
                      try clear c6
                      try clear c6b0
                      try clear c6b1
                      try clear p6
                      try clear c9
                      try clear c10
                      try clear c11
                      try clear c13
                      try clear c16
                      try clear c16b0
                      try clear c17
                      try clear c17b0
                      try clear c18
                      try clear c18b0
                      try clear p18
                      try clear q18
                      try clear hx18
                      try clear c22
                      try clear c22b0
                      try clear c22b1
                      try clear hcz21_0
                      try clear hcz21_1
                      try clear hcz21_2
                      try clear hcz21_3
                      try clear hfz21_0
                      try clear hfz21_1
                      try clear hfz21_2
                      try clear hfz21_3
                      try clear hx189_0
                      try clear hx189_1
                      try clear hx189_2
                      try clear hx189_3
                      try clear p189
                      try clear p2
                      try clear q189
                      obtain ⟨kq, x68_18, rfl, HA, HJ18, HO_9, HO_52, BK190, HB⟩ := hcut
                      cases kq with
                      | zero => exact absurd HA.out (by simp [bywashlaw11_BlockParts.j2])
                      | succ kj18 =>
                        have H := HA.out
                        clear HA
                        simp only [bywashlaw11_BlockParts.j2] at H
                        have HC23 := Aside0.mk H
                        clear H
                        go_upto_if 68 with (fail)
                        go_cut [14] (fun v14 wc => ∃ (kq : Nat) (x14_22 : Int), v14 = .int .i64 x14_22 ∧ Aside0 (bywashlaw11_BlockParts.j3 kq a0 a1 a2 a3 t185 x54_2 (x54_2 == (wrap64 ((t185.length : Int) - 1))) x14_22 t185 (t185.length : Int) x54_2 ((rd_T39 t185 x54_2).f0) ((rd_T39 t185 x54_2).f1) ((rd_T39 t185 x54_2).f2) ((rd_T39 t185 x54_2).f3) = some r) ∧ Aside0 (kq ≤ kj18) ∧ Aside0 (Kd.R k39 39 wc w.heap.size (fun k_ => k_ ≠ gb190) (.slice (some ad189) t185.length co15) t185) ∧ Aside0 (Kd.R k39 39 wc w.heap.size (fun k_ => k_ ≠ gb190) (.slice (some ad189) t185.length co15) t185) ∧ Aside0 (wc.heap[gb190]? = some (.cells #[.int .i64 ((rd_T39 t185 x54_2).f0), .int .i64 ((rd_T39 t185 x54_2).f1), .int .i64 ((rd_T39 t185 x54_2).f2), .string ((rd_T39 t185 x54_2).f3)] 39 (0, 0))) ∧ Aside0 (Below w.heap.size w wc))
                        case first =>
                          have H := HC23.out
                          clear HC23
                          by_cases c24 : x68_18 = true
                          · subst c24
                            have H1 : (bywashlaw11_BlockParts.j3 kj18 a0 a1 a2 a3 t185 x54_2 (x54_2 == (wrap64 ((t185.length : Int) - 1))) 1 t185 (t185.length : Int) x54_2 ((rd_T39 t185 x54_2).f0) ((rd_T39 t185 x54_2).f1) ((rd_T39 t185 x54_2).f2) ((rd_T39 t185 x54_2).f3)) = some r := by rw [if_pos rfl] at H; exact H
                            clear H
                            have H := H1
                            clear H1
                            have H' := Aside0.mk H
                            clear H
                            go_wp2
                            go_meet
                            case rel => exact ⟨_, (1), (by first | rfl | (simp; done) | (simp [*]; done)), H', ⟨by have := HJ4.out; have := HK2.out; have := HJ18.out; first | omega | exact Nat.le_refl _⟩, ⟨by (with_reducible repeat (first | apply Kd.R_alloc | apply Kd.R_drewN | apply Kd.R_drew)); exact HO_9.out⟩, ⟨by (with_reducible repeat (first | apply Kd.R_alloc | apply Kd.R_drewN | apply Kd.R_drew)); exact HO_52.out⟩, ⟨by (with_reducible repeat (first | refine blk_drewN ?_ _ | refine blk_drew ?_ | refine blk_alloc ?_ _)); exact BK190.out⟩, ⟨by repeat (first | (with_reducible first | exact HB.out | apply below_alloc | apply pw_below_drewN | apply below_drew1 | refine below_set ?_ GE190.out) | exact HB.out)⟩⟩
                          · replace c24 := Bool.eq_false_iff.mpr c24
                            subst c24
                            have H1 : (bywashlaw11_BlockParts.j3 kj18 a0 a1 a2 a3 t185 x54_2 (x54_2 == (wrap64 ((t185.length : Int) - 1))) 0 t185 (t185.length : Int) x54_2 ((rd_T39 t185 x54_2).f0) ((rd_T39 t185 x54_2).f1) ((rd_T39 t185 x54_2).f2) ((rd_T39 t185 x54_2).f3)) = some r := by rw [if_neg (show ¬ (false = true) by decide)] at H; exact H
                            clear H
                            have H := H1
                            clear H1
                            have H' := Aside0.mk H
                            clear H
                            go_wp2
                            go_meet
                            case rel => exact ⟨_, (0), (by first | rfl | (simp; done) | (simp [*]; done)), H', ⟨by have := HJ4.out; have := HK2.out; have := HJ18.out; first | omega | exact Nat.le_refl _⟩, ⟨by (with_reducible repeat (first | apply Kd.R_alloc | apply Kd.R_drewN | apply Kd.R_drew)); exact HO_9.out⟩, ⟨by (with_reducible repeat (first | apply Kd.R_alloc | apply Kd.R_drewN | apply Kd.R_drew)); exact HO_52.out⟩, ⟨by (with_reducible repeat (first | refine blk_drewN ?_ _ | refine blk_drew ?_ | refine blk_alloc ?_ _)); exact BK190.out⟩, ⟨by repeat (first | (with_reducible first | exact HB.out | apply below_alloc | apply pw_below_drewN | apply below_drew1 | refine below_set ?_ GE190.out) | exact HB.out)⟩⟩
                        case rest =>
                          clear HC23
                          try clear c1
                          try clear p1
                          try clear q1
                          try clear hx1
                          try clear c2
                          try clear p2
                          try clear c5
                          try clear c6
                          try clear c6b0
                          try clear c6b1
                          try clear p6
                          try clear c9
                          try clear c10
                          try clear c11
                          try clear c13
                          try clear c16
                          try clear c16b0
                          try clear c17
                          try clear c17b0
                          try clear c18
                          try clear c18b0
                          try clear p18
                          try clear q18
                          try clear hx18
                          try clear c22
                          try clear c22b0
                          try clear c22b1
                          try clear c24
                          try clear hcz21_0
                          try clear hcz21_1
                          try clear hcz21_2
                          try clear hcz21_3
                          try clear hfz21_0
                          try clear hfz21_1
                          try clear hfz21_2
                          try clear hfz21_3
                          try clear hx189_0
                          try clear hx189_1
                          try clear hx189_2
                          try clear hx189_3
                          try clear p1
                          try clear p18
                          try clear p189
                          try clear p2
                          try clear p6
                          try clear q1
                          try clear q18
                          try clear q189
                          obtain ⟨kq, x14_22, rfl, HA, HJ22, HO_9, HO_52, BK190, HB⟩ := hcut
                          cases kq with
                          | zero => exact absurd HA.out (by simp [bywashlaw11_BlockParts.j3])
                          | succ kj22 =>
                            have H := HA.out
                            clear HA
                            simp only [bywashlaw11_BlockParts.j3] at H
                            have HC25 := Aside0.mk H
                            clear H
                            go_upto_if 69 with (fail)
                            generalize hbl_ : (x54_2 == (wrap64 ((t185.length : Int) - 1))) = bl1_
                            have Nbl1 := Aside0.mk hbl_
                            clear hbl_
                            go_cut [14] (fun v14 wc => ∃ (kq : Nat) (x14_24 : Int), v14 = .int .i64 x14_24 ∧ Aside0 (bywashlaw11_BlockParts.j4 kq a0 a1 a2 a3 t185 x54_2 (x54_2 == (wrap64 ((t185.length : Int) - 1))) x14_24 t185 (t185.length : Int) x54_2 ((rd_T39 t185 x54_2).f0) ((rd_T39 t185 x54_2).f1) ((rd_T39 t185 x54_2).f2) ((rd_T39 t185 x54_2).f3) = some r) ∧ Aside0 (kq ≤ kj22) ∧ Aside0 (Kd.R k39 39 wc w.heap.size (fun k_ => k_ ≠ gb190) (.slice (some ad189) t185.length co15) t185) ∧ Aside0 (Kd.R k39 39 wc w.heap.size (fun k_ => k_ ≠ gb190) (.slice (some ad189) t185.length co15) t185) ∧ Aside0 (wc.heap[gb190]? = some (.cells #[.int .i64 ((rd_T39 t185 x54_2).f0), .int .i64 ((rd_T39 t185 x54_2).f1), .int .i64 ((rd_T39 t185 x54_2).f2), .string ((rd_T39 t185 x54_2).f3)] 39 (0, 0))) ∧ Aside0 (Below w.heap.size w wc))
                            case first =>
                              have H := HC25.out
                              clear HC25
                              by_cases c26 : (x54_2 == (wrap64 ((t185.length : Int) - 1))) = true
                              · rw [if_pos c26] at H
                                have c26b0 : (x54_2 == (wrap64 ((t185.length : Int) - 1))) = true := c26
                                have cbl_ : bl1_ = true := Nbl1.out.symm.trans c26b0
                                subst cbl_
                                (try (have c26b1 : decide (x54_2 = (wrap64 ((t185.length : Int) - 1))) = true := by simpa using c26))
                                (try (have c26b2 : (x54_2 == (wrap64 ((t185.length : Int) - 1))) = true := by simpa using c26))
                                clear c26
                                (first | rw [c26b0] | (simp only [i64_w, i32_w]; rw [c26b0]) | skip)
                                have H' := Aside0.mk H
                                clear H
                                go_wp2
                                go_meet
                                case rel => exact ⟨_, (Go.bits .or .i64 x14_22 4), (by first | rfl | (simp; done) | (simp [*]; done)), H', ⟨by have := HJ4.out; have := HK2.out; have := HJ18.out; have := HJ22.out; first | omega | exact Nat.le_refl _⟩, ⟨by (with_reducible repeat (first | apply Kd.R_alloc | apply Kd.R_drewN | apply Kd.R_drew)); exact HO_9.out⟩, ⟨by (with_reducible repeat (first | apply Kd.R_alloc | apply Kd.R_drewN | apply Kd.R_drew)); exact HO_52.out⟩, ⟨by (with_reducible repeat (first | refine blk_drewN ?_ _ | refine blk_drew ?_ | refine blk_alloc ?_ _)); exact BK190.out⟩, ⟨by repeat (first | (with_reducible first | exact HB.out | apply below_alloc | apply pw_below_drewN | apply below_drew1 | refine below_set ?_ GE190.out) | exact HB.out)⟩⟩
                              · rw [if_neg c26] at H
                                have c26b0 : (x54_2 == (wrap64 ((t185.length : Int) - 1))) = false := by simpa using c26
                                have cbl_ : bl1_ = false := Nbl1.out.symm.trans c26b0
                                subst cbl_
                                (try (have c26b1 : decide (x54_2 = (wrap64 ((t185.length : Int) - 1))) = false := by simpa using c26))
                                (try (have c26b2 : (x54_2 == (wrap64 ((t185.length : Int) - 1))) = false := by simpa using c26))
                                (try (have c26b3 : ¬ (x54_2 = (wrap64 ((t185.length : Int) - 1))) := by simpa using c26))
                                clear c26
                                (first | rw [c26b0] | (simp only [i64_w, i32_w]; rw [c26b0]) | skip)
                                have H' := Aside0.mk H
                                clear H
                                go_wp2
                                go_meet
                                case rel => exact ⟨_, (x14_22), (by first | rfl | (simp; done) | (simp [*]; done)), H', ⟨by have := HJ4.out; have := HK2.out; have := HJ18.out; have := HJ22.out; first | omega | exact Nat.le_refl _⟩, ⟨by (with_reducible repeat (first | apply Kd.R_alloc | apply Kd.R_drewN | apply Kd.R_drew)); exact HO_9.out⟩, ⟨by (with_reducible repeat (first | apply Kd.R_alloc | apply Kd.R_drewN | apply Kd.R_drew)); exact HO_52.out⟩, ⟨by (with_reducible repeat (first | refine blk_drewN ?_ _ | refine blk_drew ?_ | refine blk_alloc ?_ _)); exact BK190.out⟩, ⟨by repeat (first | (with_reducible first | exact HB.out | apply below_alloc | apply pw_below_drewN | apply below_drew1 | refine below_set ?_ GE190.out) | exact HB.out)⟩⟩
                            case rest =>
                              have hbl_ := Nbl1.out
                              subst hbl_
                              clear HC25
                              try clear c1
                              try clear p1
                              try clear q1
                              try clear hx1
                              try clear c2
                              try clear p2
                              try clear c5
                              try clear c6
                              try clear c6b0
                              try clear c6b1
                              try clear p6
                              try clear c9
                              try clear c10
                              try clear c11
                              try clear c13
                              try clear c16
                              try clear c16b0
                              try clear c17
                              try clear c17b0
                              try clear c18
                              try clear c18b0
                              try clear p18
                              try clear q18
                              try clear hx18
                              try clear c22
                              try clear c22b0
                              try clear c22b1
                              try clear c24
                              try clear c26
                              try clear c26b0
                              try clear c26b1
                              try clear c26b2
                              try clear hcz21_0
                              try clear hcz21_1
                              try clear hcz21_2
                              try clear hcz21_3
                              try clear hfz21_0
                              try clear hfz21_1
                              try clear hfz21_2
                              try clear hfz21_3
                              try clear hx189_0
                              try clear hx189_1
                              try clear hx189_2
                              try clear hx189_3
                              try clear p1
                              try clear p18
                              try clear p189
                              try clear p2
                              try clear p6
                              try clear q1
                              try clear q18
                              try clear q189
                              obtain ⟨kq, x14_24, rfl, HA, HJ24, HO_9, HO_52, BK190, HB⟩ := hcut
                              cases kq with
                              | zero => exact absurd HA.out (by simp [bywashlaw11_BlockParts.j4])
                              | succ kj24 =>
                                have H := HA.out
                                clear HA
                                simp only [bywashlaw11_BlockParts.j4] at H
                                have HC27 := Aside0.mk H
                                clear H
                                go_upto_region 15 with (fail)
                                generalize hbl_ : (x54_2 == (wrap64 ((t185.length : Int) - 1))) = bl2_
                                have Nbl2 := Aside0.mk hbl_
                                clear hbl_
                                go_cut [128] (fun v128 wc => ∃ (kq : Nat) (x128_26 : Bool), v128 = .bool x128_26 ∧ Aside0 (bywashlaw11_BlockParts.j5 kq a0 a1 a2 a3 t185 t185 (t185.length : Int) x54_2 x128_26 = some r) ∧ Aside0 (kq ≤ kj24) ∧ Aside0 (Kd.R k39 39 wc w.heap.size (fun k_ => k_ ≠ gb190) (.slice (some ad189) t185.length co15) t185) ∧ Aside0 (Kd.R k39 39 wc w.heap.size (fun k_ => k_ ≠ gb190) (.slice (some ad189) t185.length co15) t185) ∧ Aside0 (wc.heap[gb190]? = some (.cells #[.int .i64 ((rd_T39 t185 x54_2).f0), .int .i64 ((rd_T39 t185 x54_2).f1), .int .i64 ((rd_T39 t185 x54_2).f2), .string ((rd_T39 t185 x54_2).f3)] 39 (0, 0))) ∧ Aside0 (Below w.heap.size w wc))
                                case first =>
                                  have H := HC27.out
                                  clear HC27
                                  by_cases c28 : ((rd_T39 t185 x54_2).f2) = a0
                                  · rw [if_pos c28] at H
                                    have c28b0 : (((rd_T39 t185 x54_2).f2) == a0) = true := beq_iff_eq.mpr c28
                                    have c28b1 : (((rd_T39 t185 x54_2).f2) != a0) = false := bne_eq_false_iff_eq.mpr c28
                                    clear c28
                                    (first | rw [c28b0] | (simp only [i64_w, i32_w]; rw [c28b0]) | skip)
                                    by_cases c29 : ((rd_T39 t185 x54_2).f0) = 1
                                    · rw [if_pos c29] at H
                                      have c29b0 : (((rd_T39 t185 x54_2).f0) == 1) = true := beq_iff_eq.mpr c29
                                      have c29b1 : (((rd_T39 t185 x54_2).f0) != 1) = false := bne_eq_false_iff_eq.mpr c29
                                      clear c29
                                      by_cases c30 : x54_2 = 0
                                      · rw [if_pos c30] at H
                                        have c30b0 : (x54_2 == 0) = true := beq_iff_eq.mpr c30
                                        have c30b1 : (x54_2 != 0) = false := bne_eq_false_iff_eq.mpr c30
                                        clear c30
                                        by_cases c31 : x54_2 > 0
                                        · rw [if_pos c31] at H
                                          have c31b0 : decide (0 < x54_2) = true := decide_eq_true c31
                                          clear c31
                                          by_cases c32 : ((rd_T39 t185 x54_2).f0) = 9
                                          · rw [if_pos c32] at H
                                            have c32b0 : (((rd_T39 t185 x54_2).f0) == 9) = true := beq_iff_eq.mpr c32
                                            have c32b1 : (((rd_T39 t185 x54_2).f0) != 9) = false := bne_eq_false_iff_eq.mpr c32
                                            clear c32
                                            by_cases c33 : ((rd_T39 t185 x54_2).f1) = x14_24
                                            · rw [if_pos c33] at H
                                              have c33b0 : (((rd_T39 t185 x54_2).f1) == x14_24) = true := beq_iff_eq.mpr c33
                                              have c33b1 : (((rd_T39 t185 x54_2).f1) != x14_24) = false := bne_eq_false_iff_eq.mpr c33
                                              clear c33
                                              by_cases c34 : (x54_2 == (wrap64 ((t185.length : Int) - 1))) = true
                                              · rw [if_pos c34] at H
                                                have c34b0 : (x54_2 == (wrap64 ((t185.length : Int) - 1))) = true := c34
                                                have cbl_ : bl2_ = true := Nbl2.out.symm.trans c34b0
                                                subst cbl_
                                                (try (have c34b1 : decide (x54_2 = (wrap64 ((t185.length : Int) - 1))) = true := by simpa using c34))
                                                (try (have c34b2 : (x54_2 == (wrap64 ((t185.length : Int) - 1))) = true := by simpa using c34))
                                                clear c34
                                                by_cases c35 : (((rd_T39 t185 x54_2).f3).size : Int) > a3
                                                · rw [if_pos c35] at H
                                                  have c35b0 : decide (a3 < (((rd_T39 t185 x54_2).f3).size : Int)) = true := decide_eq_true c35
                                                  clear c35
                                                  have H' := Aside0.mk H
                                                  clear H
                                                  have hcz36_0 : wc.cell? ⟨gb190, 0, none⟩ = some (.int .i64 ((rd_T39 t185 x54_2).f0)) := (blk_cell BK190.out 0).trans rfl
                                                  have hcz36_1 : wc.cell? ⟨gb190, 1, none⟩ = some (.int .i64 ((rd_T39 t185 x54_2).f1)) := (blk_cell BK190.out 1).trans rfl
                                                  have hcz36_2 : wc.cell? ⟨gb190, 2, none⟩ = some (.int .i64 ((rd_T39 t185 x54_2).f2)) := (blk_cell BK190.out 2).trans rfl
                                                  have hcz36_3 : wc.cell? ⟨gb190, 3, none⟩ = some (.string ((rd_T39 t185 x54_2).f3)) := (blk_cell BK190.out 3).trans rfl
                                                  have hfz36_0 := blk_frozen BK190.out 0
                                                  have hfz36_1 := blk_frozen BK190.out 1
                                                  have hfz36_2 := blk_frozen BK190.out 2
                                                  have hfz36_3 := blk_frozen BK190.out 3
                                                  go_wp2
                                                  go_meet
                                                  case rel => exact ⟨_, (true), (by first | rfl | (simp; done) | (simp [*]; done)), H', ⟨by have := HJ4.out; have := HK2.out; have := HJ18.out; have := HJ22.out; have := HJ24.out; first | omega | exact Nat.le_refl _⟩, ⟨by (with_reducible repeat (first | apply Kd.R_alloc | apply Kd.R_drewN | apply Kd.R_drew)); exact HO_9.out⟩, ⟨by (with_reducible repeat (first | apply Kd.R_alloc | apply Kd.R_drewN | apply Kd.R_drew)); exact HO_52.out⟩, ⟨by (with_reducible repeat (first | refine blk_drewN ?_ _ | refine blk_drew ?_ | refine blk_alloc ?_ _)); exact BK190.out⟩, ⟨by repeat (first | (with_reducible first | exact HB.out | apply below_alloc | apply pw_below_drewN | apply below_drew1 | refine below_set ?_ GE190.out) | exact HB.out)⟩⟩
                                                · rw [if_neg c35] at H
                                                  have c35b0 : decide (a3 < (((rd_T39 t185 x54_2).f3).size : Int)) = false := decide_eq_false c35
                                                  clear c35
                                                  by_cases c37 : ((rd_T39 t185 x54_2).f3).toList = ([] : List UInt8)
                                                  · rw [if_pos c37] at H
                                                    have c37b0 : (((rd_T39 t185 x54_2).f3).toList == ([] : List UInt8)) = true := beq_iff_eq.mpr c37
                                                    have c37b1 : (((rd_T39 t185 x54_2).f3).toList != ([] : List UInt8)) = false := bne_eq_false_iff_eq.mpr c37
                                                    clear c37
                                                    have H' := Aside0.mk H
                                                    clear H
                                                    have hcz38_0 : wc.cell? ⟨gb190, 0, none⟩ = some (.int .i64 ((rd_T39 t185 x54_2).f0)) := (blk_cell BK190.out 0).trans rfl
                                                    have hcz38_1 : wc.cell? ⟨gb190, 1, none⟩ = some (.int .i64 ((rd_T39 t185 x54_2).f1)) := (blk_cell BK190.out 1).trans rfl
                                                    have hcz38_2 : wc.cell? ⟨gb190, 2, none⟩ = some (.int .i64 ((rd_T39 t185 x54_2).f2)) := (blk_cell BK190.out 2).trans rfl
                                                    have hcz38_3 : wc.cell? ⟨gb190, 3, none⟩ = some (.string ((rd_T39 t185 x54_2).f3)) := (blk_cell BK190.out 3).trans rfl
                                                    have hfz38_0 := blk_frozen BK190.out 0
                                                    have hfz38_1 := blk_frozen BK190.out 1
                                                    have hfz38_2 := blk_frozen BK190.out 2
                                                    have hfz38_3 := blk_frozen BK190.out 3
                                                    go_wp2
                                                    go_meet
                                                    case rel => exact ⟨_, ((a1.toList != ([] : List UInt8))), (by first | rfl | exact congrArg Value.bool (bne_nil2_ _).symm | exact congrArg Value.bool (bne_nil2_ _) | (simp; done) | (simp [*]; done)), H', ⟨by have := HJ4.out; have := HK2.out; have := HJ18.out; have := HJ22.out; have := HJ24.out; first | omega | exact Nat.le_refl _⟩, ⟨by (with_reducible repeat (first | apply Kd.R_alloc | apply Kd.R_drewN | apply Kd.R_drew)); exact HO_9.out⟩, ⟨by (with_reducible repeat (first | apply Kd.R_alloc | apply Kd.R_drewN | apply Kd.R_drew)); exact HO_52.out⟩, ⟨by (with_reducible repeat (first | refine blk_drewN ?_ _ | refine blk_drew ?_ | refine blk_alloc ?_ _)); exact BK190.out⟩, ⟨by repeat (first | (with_reducible first | exact HB.out | apply below_alloc | apply pw_below_drewN | apply below_drew1 | refine below_set ?_ GE190.out) | exact HB.out)⟩⟩
                                                  · rw [if_neg c37] at H
                                                    have c37b0 : (((rd_T39 t185 x54_2).f3).toList == ([] : List UInt8)) = false := beq_eq_false_iff_ne.mpr c37
                                                    have c37b1 : (((rd_T39 t185 x54_2).f3).toList != ([] : List UInt8)) = true := bne_iff_ne.mpr c37
                                                    have H' := Aside0.mk H
                                                    clear H
                                                    have hcz39_0 : wc.cell? ⟨gb190, 0, none⟩ = some (.int .i64 ((rd_T39 t185 x54_2).f0)) := (blk_cell BK190.out 0).trans rfl
                                                    have hcz39_1 : wc.cell? ⟨gb190, 1, none⟩ = some (.int .i64 ((rd_T39 t185 x54_2).f1)) := (blk_cell BK190.out 1).trans rfl
                                                    have hcz39_2 : wc.cell? ⟨gb190, 2, none⟩ = some (.int .i64 ((rd_T39 t185 x54_2).f2)) := (blk_cell BK190.out 2).trans rfl
                                                    have hcz39_3 : wc.cell? ⟨gb190, 3, none⟩ = some (.string ((rd_T39 t185 x54_2).f3)) := (blk_cell BK190.out 3).trans rfl
                                                    have hfz39_0 := blk_frozen BK190.out 0
                                                    have hfz39_1 := blk_frozen BK190.out 1
                                                    have hfz39_2 := blk_frozen BK190.out 2
                                                    have hfz39_3 := blk_frozen BK190.out 3
                                                    go_wp2
                                                    go_meet
                                                    case rel => exact ⟨_, (false), (by first | rfl | (simp; done) | (simp [*]; done)), H', ⟨by have := HJ4.out; have := HK2.out; have := HJ18.out; have := HJ22.out; have := HJ24.out; first | omega | exact Nat.le_refl _⟩, ⟨by (with_reducible repeat (first | apply Kd.R_alloc | apply Kd.R_drewN | apply Kd.R_drew)); exact HO_9.out⟩, ⟨by (with_reducible repeat (first | apply Kd.R_alloc | apply Kd.R_drewN | apply Kd.R_drew)); exact HO_52.out⟩, ⟨by (with_reducible repeat (first | refine blk_drewN ?_ _ | refine blk_drew ?_ | refine blk_alloc ?_ _)); exact BK190.out⟩, ⟨by repeat (first | (with_reducible first | exact HB.out | apply below_alloc | apply pw_below_drewN | apply below_drew1 | refine below_set ?_ GE190.out) | exact HB.out)⟩⟩
                                              · rw [if_neg c34] at H
                                                have c34b0 : (x54_2 == (wrap64 ((t185.length : Int) - 1))) = false := by simpa using c34
                                                have cbl_ : bl2_ = false := Nbl2.out.symm.trans c34b0
                                                subst cbl_
                                                (try (have c34b1 : decide (x54_2 = (wrap64 ((t185.length : Int) - 1))) = false := by simpa using c34))
                                                (try (have c34b2 : (x54_2 == (wrap64 ((t185.length : Int) - 1))) = false := by simpa using c34))
                                                (try (have c34b3 : ¬ (x54_2 = (wrap64 ((t185.length : Int) - 1))) := by simpa using c34))
                                                clear c34
                                                by_cases c40 : (((rd_T39 t185 x54_2).f3).size : Int) = a3
                                                · rw [if_pos c40] at H
                                                  have c40b0 : ((((rd_T39 t185 x54_2).f3).size : Int) == a3) = true := beq_iff_eq.mpr c40
                                                  have c40b1 : ((((rd_T39 t185 x54_2).f3).size : Int) != a3) = false := bne_eq_false_iff_eq.mpr c40
                                                  clear c40
                                                  have H' := Aside0.mk H
                                                  clear H
                                                  have hcz41_0 : wc.cell? ⟨gb190, 0, none⟩ = some (.int .i64 ((rd_T39 t185 x54_2).f0)) := (blk_cell BK190.out 0).trans rfl
                                                  have hcz41_1 : wc.cell? ⟨gb190, 1, none⟩ = some (.int .i64 ((rd_T39 t185 x54_2).f1)) := (blk_cell BK190.out 1).trans rfl
                                                  have hcz41_2 : wc.cell? ⟨gb190, 2, none⟩ = some (.int .i64 ((rd_T39 t185 x54_2).f2)) := (blk_cell BK190.out 2).trans rfl
                                                  have hcz41_3 : wc.cell? ⟨gb190, 3, none⟩ = some (.string ((rd_T39 t185 x54_2).f3)) := (blk_cell BK190.out 3).trans rfl
                                                  have hfz41_0 := blk_frozen BK190.out 0
                                                  have hfz41_1 := blk_frozen BK190.out 1
                                                  have hfz41_2 := blk_frozen BK190.out 2
                                                  have hfz41_3 := blk_frozen BK190.out 3
                                                  go_wp2
                                                  go_meet
                                                  case rel => exact ⟨_, (false), (by first | rfl | (simp; done) | (simp [*]; done)), H', ⟨by have := HJ4.out; have := HK2.out; have := HJ18.out; have := HJ22.out; have := HJ24.out; first | omega | exact Nat.le_refl _⟩, ⟨by (with_reducible repeat (first | apply Kd.R_alloc | apply Kd.R_drewN | apply Kd.R_drew)); exact HO_9.out⟩, ⟨by (with_reducible repeat (first | apply Kd.R_alloc | apply Kd.R_drewN | apply Kd.R_drew)); exact HO_52.out⟩, ⟨by (with_reducible repeat (first | refine blk_drewN ?_ _ | refine blk_drew ?_ | refine blk_alloc ?_ _)); exact BK190.out⟩, ⟨by repeat (first | (with_reducible first | exact HB.out | apply below_alloc | apply pw_below_drewN | apply below_drew1 | refine below_set ?_ GE190.out) | exact HB.out)⟩⟩
                                                · rw [if_neg c40] at H
                                                  have c40b0 : ((((rd_T39 t185 x54_2).f3).size : Int) == a3) = false := beq_eq_false_iff_ne.mpr c40
                                                  have c40b1 : ((((rd_T39 t185 x54_2).f3).size : Int) != a3) = true := bne_iff_ne.mpr c40
                                                  have H' := Aside0.mk H
                                                  clear H
                                                  have hcz42_0 : wc.cell? ⟨gb190, 0, none⟩ = some (.int .i64 ((rd_T39 t185 x54_2).f0)) := (blk_cell BK190.out 0).trans rfl
                                                  have hcz42_1 : wc.cell? ⟨gb190, 1, none⟩ = some (.int .i64 ((rd_T39 t185 x54_2).f1)) := (blk_cell BK190.out 1).trans rfl
                                                  have hcz42_2 : wc.cell? ⟨gb190, 2, none⟩ = some (.int .i64 ((rd_T39 t185 x54_2).f2)) := (blk_cell BK190.out 2).trans rfl
                                                  have hcz42_3 : wc.cell? ⟨gb190, 3, none⟩ = some (.string ((rd_T39 t185 x54_2).f3)) := (blk_cell BK190.out 3).trans rfl
                                                  have hfz42_0 := blk_frozen BK190.out 0
                                                  have hfz42_1 := blk_frozen BK190.out 1
                                                  have hfz42_2 := blk_frozen BK190.out 2
                                                  have hfz42_3 := blk_frozen BK190.out 3
                                                  go_wp2
                                                  go_meet
                                                  case rel => exact ⟨_, (true), (by first | rfl | (simp; done) | (simp [*]; done)), H', ⟨by have := HJ4.out; have := HK2.out; have := HJ18.out; have := HJ22.out; have := HJ24.out; first | omega | exact Nat.le_refl _⟩, ⟨by (with_reducible repeat (first | apply Kd.R_alloc | apply Kd.R_drewN | apply Kd.R_drew)); exact HO_9.out⟩, ⟨by (with_reducible repeat (first | apply Kd.R_alloc | apply Kd.R_drewN | apply Kd.R_drew)); exact HO_52.out⟩, ⟨by (with_reducible repeat (first | refine blk_drewN ?_ _ | refine blk_drew ?_ | refine blk_alloc ?_ _)); exact BK190.out⟩, ⟨by repeat (first | (with_reducible first | exact HB.out | apply below_alloc | apply pw_below_drewN | apply below_drew1 | refine below_set ?_ GE190.out) | exact HB.out)⟩⟩
                                            · rw [if_neg c33] at H
                                              have c33b0 : (((rd_T39 t185 x54_2).f1) == x14_24) = false := beq_eq_false_iff_ne.mpr c33
                                              have c33b1 : (((rd_T39 t185 x54_2).f1) != x14_24) = true := bne_iff_ne.mpr c33
                                              have H' := Aside0.mk H
                                              clear H
                                              have hcz43_0 : wc.cell? ⟨gb190, 0, none⟩ = some (.int .i64 ((rd_T39 t185 x54_2).f0)) := (blk_cell BK190.out 0).trans rfl
                                              have hcz43_1 : wc.cell? ⟨gb190, 1, none⟩ = some (.int .i64 ((rd_T39 t185 x54_2).f1)) := (blk_cell BK190.out 1).trans rfl
                                              have hcz43_2 : wc.cell? ⟨gb190, 2, none⟩ = some (.int .i64 ((rd_T39 t185 x54_2).f2)) := (blk_cell BK190.out 2).trans rfl
                                              have hcz43_3 : wc.cell? ⟨gb190, 3, none⟩ = some (.string ((rd_T39 t185 x54_2).f3)) := (blk_cell BK190.out 3).trans rfl
                                              have hfz43_0 := blk_frozen BK190.out 0
                                              have hfz43_1 := blk_frozen BK190.out 1
                                              have hfz43_2 := blk_frozen BK190.out 2
                                              have hfz43_3 := blk_frozen BK190.out 3
                                              go_wp2
                                              go_meet
                                              case rel => exact ⟨_, (true), (by first | rfl | (simp; done) | (simp [*]; done)), H', ⟨by have := HJ4.out; have := HK2.out; have := HJ18.out; have := HJ22.out; have := HJ24.out; first | omega | exact Nat.le_refl _⟩, ⟨by (with_reducible repeat (first | apply Kd.R_alloc | apply Kd.R_drewN | apply Kd.R_drew)); exact HO_9.out⟩, ⟨by (with_reducible repeat (first | apply Kd.R_alloc | apply Kd.R_drewN | apply Kd.R_drew)); exact HO_52.out⟩, ⟨by (with_reducible repeat (first | refine blk_drewN ?_ _ | refine blk_drew ?_ | refine blk_alloc ?_ _)); exact BK190.out⟩, ⟨by repeat (first | (with_reducible first | exact HB.out | apply below_alloc | apply pw_below_drewN | apply below_drew1 | refine below_set ?_ GE190.out) | exact HB.out)⟩⟩
                                          · rw [if_neg c32] at H
                                            have c32b0 : (((rd_T39 t185 x54_2).f0) == 9) = false := beq_eq_false_iff_ne.mpr c32
                                            have c32b1 : (((rd_T39 t185 x54_2).f0) != 9) = true := bne_iff_ne.mpr c32
                                            have H' := Aside0.mk H
                                            clear H
                                            have hcz44_0 : wc.cell? ⟨gb190, 0, none⟩ = some (.int .i64 ((rd_T39 t185 x54_2).f0)) := (blk_cell BK190.out 0).trans rfl
                                            have hcz44_1 : wc.cell? ⟨gb190, 1, none⟩ = some (.int .i64 ((rd_T39 t185 x54_2).f1)) := (blk_cell BK190.out 1).trans rfl
                                            have hcz44_2 : wc.cell? ⟨gb190, 2, none⟩ = some (.int .i64 ((rd_T39 t185 x54_2).f2)) := (blk_cell BK190.out 2).trans rfl
                                            have hcz44_3 : wc.cell? ⟨gb190, 3, none⟩ = some (.string ((rd_T39 t185 x54_2).f3)) := (blk_cell BK190.out 3).trans rfl
                                            have hfz44_0 := blk_frozen BK190.out 0
                                            have hfz44_1 := blk_frozen BK190.out 1
                                            have hfz44_2 := blk_frozen BK190.out 2
                                            have hfz44_3 := blk_frozen BK190.out 3
                                            go_wp2
                                            go_meet
                                            case rel => exact ⟨_, (true), (by first | rfl | (simp; done) | (simp [*]; done)), H', ⟨by have := HJ4.out; have := HK2.out; have := HJ18.out; have := HJ22.out; have := HJ24.out; first | omega | exact Nat.le_refl _⟩, ⟨by (with_reducible repeat (first | apply Kd.R_alloc | apply Kd.R_drewN | apply Kd.R_drew)); exact HO_9.out⟩, ⟨by (with_reducible repeat (first | apply Kd.R_alloc | apply Kd.R_drewN | apply Kd.R_drew)); exact HO_52.out⟩, ⟨by (with_reducible repeat (first | refine blk_drewN ?_ _ | refine blk_drew ?_ | refine blk_alloc ?_ _)); exact BK190.out⟩, ⟨by repeat (first | (with_reducible first | exact HB.out | apply below_alloc | apply pw_below_drewN | apply below_drew1 | refine below_set ?_ GE190.out) | exact HB.out)⟩⟩
                                        · rw [if_neg c31] at H
                                          have c31b0 : decide (0 < x54_2) = false := decide_eq_false c31
                                          clear c31
                                          by_cases c45 : ((rd_T39 t185 x54_2).f1) = x14_24
                                          · rw [if_pos c45] at H
                                            have c45b0 : (((rd_T39 t185 x54_2).f1) == x14_24) = true := beq_iff_eq.mpr c45
                                            have c45b1 : (((rd_T39 t185 x54_2).f1) != x14_24) = false := bne_eq_false_iff_eq.mpr c45
                                            clear c45
                                            by_cases c46 : (x54_2 == (wrap64 ((t185.length : Int) - 1))) = true
                                            · rw [if_pos c46] at H
                                              have c46b0 : (x54_2 == (wrap64 ((t185.length : Int) - 1))) = true := c46
                                              have cbl_ : bl2_ = true := Nbl2.out.symm.trans c46b0
                                              subst cbl_
                                              (try (have c46b1 : decide (x54_2 = (wrap64 ((t185.length : Int) - 1))) = true := by simpa using c46))
                                              (try (have c46b2 : (x54_2 == (wrap64 ((t185.length : Int) - 1))) = true := by simpa using c46))
                                              clear c46
                                              by_cases c47 : (((rd_T39 t185 x54_2).f3).size : Int) > a3
                                              · rw [if_pos c47] at H
                                                have c47b0 : decide (a3 < (((rd_T39 t185 x54_2).f3).size : Int)) = true := decide_eq_true c47
                                                clear c47
                                                have H' := Aside0.mk H
                                                clear H
                                                have hcz48_0 : wc.cell? ⟨gb190, 0, none⟩ = some (.int .i64 ((rd_T39 t185 x54_2).f0)) := (blk_cell BK190.out 0).trans rfl
                                                have hcz48_1 : wc.cell? ⟨gb190, 1, none⟩ = some (.int .i64 ((rd_T39 t185 x54_2).f1)) := (blk_cell BK190.out 1).trans rfl
                                                have hcz48_2 : wc.cell? ⟨gb190, 2, none⟩ = some (.int .i64 ((rd_T39 t185 x54_2).f2)) := (blk_cell BK190.out 2).trans rfl
                                                have hcz48_3 : wc.cell? ⟨gb190, 3, none⟩ = some (.string ((rd_T39 t185 x54_2).f3)) := (blk_cell BK190.out 3).trans rfl
                                                have hfz48_0 := blk_frozen BK190.out 0
                                                have hfz48_1 := blk_frozen BK190.out 1
                                                have hfz48_2 := blk_frozen BK190.out 2
                                                have hfz48_3 := blk_frozen BK190.out 3
                                                go_wp2
                                                go_meet
                                                case rel => exact ⟨_, (true), (by first | rfl | (simp; done) | (simp [*]; done)), H', ⟨by have := HJ4.out; have := HK2.out; have := HJ18.out; have := HJ22.out; have := HJ24.out; first | omega | exact Nat.le_refl _⟩, ⟨by (with_reducible repeat (first | apply Kd.R_alloc | apply Kd.R_drewN | apply Kd.R_drew)); exact HO_9.out⟩, ⟨by (with_reducible repeat (first | apply Kd.R_alloc | apply Kd.R_drewN | apply Kd.R_drew)); exact HO_52.out⟩, ⟨by (with_reducible repeat (first | refine blk_drewN ?_ _ | refine blk_drew ?_ | refine blk_alloc ?_ _)); exact BK190.out⟩, ⟨by repeat (first | (with_reducible first | exact HB.out | apply below_alloc | apply pw_below_drewN | apply below_drew1 | refine below_set ?_ GE190.out) | exact HB.out)⟩⟩
                                              · rw [if_neg c47] at H
                                                have c47b0 : decide (a3 < (((rd_T39 t185 x54_2).f3).size : Int)) = false := decide_eq_false c47
                                                clear c47
                                                by_cases c49 : ((rd_T39 t185 x54_2).f3).toList = ([] : List UInt8)
                                                · rw [if_pos c49] at H
                                                  have c49b0 : (((rd_T39 t185 x54_2).f3).toList == ([] : List UInt8)) = true := beq_iff_eq.mpr c49
                                                  have c49b1 : (((rd_T39 t185 x54_2).f3).toList != ([] : List UInt8)) = false := bne_eq_false_iff_eq.mpr c49
                                                  clear c49
                                                  have H' := Aside0.mk H
                                                  clear H
                                                  have hcz50_0 : wc.cell? ⟨gb190, 0, none⟩ = some (.int .i64 ((rd_T39 t185 x54_2).f0)) := (blk_cell BK190.out 0).trans rfl
                                                  have hcz50_1 : wc.cell? ⟨gb190, 1, none⟩ = some (.int .i64 ((rd_T39 t185 x54_2).f1)) := (blk_cell BK190.out 1).trans rfl
                                                  have hcz50_2 : wc.cell? ⟨gb190, 2, none⟩ = some (.int .i64 ((rd_T39 t185 x54_2).f2)) := (blk_cell BK190.out 2).trans rfl
                                                  have hcz50_3 : wc.cell? ⟨gb190, 3, none⟩ = some (.string ((rd_T39 t185 x54_2).f3)) := (blk_cell BK190.out 3).trans rfl
                                                  have hfz50_0 := blk_frozen BK190.out 0
                                                  have hfz50_1 := blk_frozen BK190.out 1
                                                  have hfz50_2 := blk_frozen BK190.out 2
                                                  have hfz50_3 := blk_frozen BK190.out 3
                                                  go_wp2
                                                  go_meet
                                                  case rel => exact ⟨_, ((a1.toList != ([] : List UInt8))), (by first | rfl | exact congrArg Value.bool (bne_nil2_ _).symm | exact congrArg Value.bool (bne_nil2_ _) | (simp; done) | (simp [*]; done)), H', ⟨by have := HJ4.out; have := HK2.out; have := HJ18.out; have := HJ22.out; have := HJ24.out; first | omega | exact Nat.le_refl _⟩, ⟨by (with_reducible repeat (first | apply Kd.R_alloc | apply Kd.R_drewN | apply Kd.R_drew)); exact HO_9.out⟩, ⟨by (with_reducible repeat (first | apply Kd.R_alloc | apply Kd.R_drewN | apply Kd.R_drew)); exact HO_52.out⟩, ⟨by (with_reducible repeat (first | refine blk_drewN ?_ _ | refine blk_drew ?_ | refine blk_alloc ?_ _)); exact BK190.out⟩, ⟨by repeat (first | (with_reducible first | exact HB.out | apply below_alloc | apply pw_below_drewN | apply below_drew1 | refine below_set ?_ GE190.out) | exact HB.out)⟩⟩
                                                · rw [if_neg c49] at H
                                                  have c49b0 : (((rd_T39 t185 x54_2).f3).toList == ([] : List UInt8)) = false := beq_eq_false_iff_ne.mpr c49
                                                  have c49b1 : (((rd_T39 t185 x54_2).f3).toList != ([] : List UInt8)) = true := bne_iff_ne.mpr c49
                                                  have H' := Aside0.mk H
                                                  clear H
                                                  have hcz51_0 : wc.cell? ⟨gb190, 0, none⟩ = some (.int .i64 ((rd_T39 t185 x54_2).f0)) := (blk_cell BK190.out 0).trans rfl
                                                  have hcz51_1 : wc.cell? ⟨gb190, 1, none⟩ = some (.int .i64 ((rd_T39 t185 x54_2).f1)) := (blk_cell BK190.out 1).trans rfl
                                                  have hcz51_2 : wc.cell? ⟨gb190, 2, none⟩ = some (.int .i64 ((rd_T39 t185 x54_2).f2)) := (blk_cell BK190.out 2).trans rfl
                                                  have hcz51_3 : wc.cell? ⟨gb190, 3, none⟩ = some (.string ((rd_T39 t185 x54_2).f3)) := (blk_cell BK190.out 3).trans rfl
                                                  have hfz51_0 := blk_frozen BK190.out 0
                                                  have hfz51_1 := blk_frozen BK190.out 1
                                                  have hfz51_2 := blk_frozen BK190.out 2
                                                  have hfz51_3 := blk_frozen BK190.out 3
                                                  go_wp2
                                                  go_meet
                                                  case rel => exact ⟨_, (false), (by first | rfl | (simp; done) | (simp [*]; done)), H', ⟨by have := HJ4.out; have := HK2.out; have := HJ18.out; have := HJ22.out; have := HJ24.out; first | omega | exact Nat.le_refl _⟩, ⟨by (with_reducible repeat (first | apply Kd.R_alloc | apply Kd.R_drewN | apply Kd.R_drew)); exact HO_9.out⟩, ⟨by (with_reducible repeat (first | apply Kd.R_alloc | apply Kd.R_drewN | apply Kd.R_drew)); exact HO_52.out⟩, ⟨by (with_reducible repeat (first | refine blk_drewN ?_ _ | refine blk_drew ?_ | refine blk_alloc ?_ _)); exact BK190.out⟩, ⟨by repeat (first | (with_reducible first | exact HB.out | apply below_alloc | apply pw_below_drewN | apply below_drew1 | refine below_set ?_ GE190.out) | exact HB.out)⟩⟩
                                            · rw [if_neg c46] at H
                                              have c46b0 : (x54_2 == (wrap64 ((t185.length : Int) - 1))) = false := by simpa using c46
                                              have cbl_ : bl2_ = false := Nbl2.out.symm.trans c46b0
                                              subst cbl_
                                              (try (have c46b1 : decide (x54_2 = (wrap64 ((t185.length : Int) - 1))) = false := by simpa using c46))
                                              (try (have c46b2 : (x54_2 == (wrap64 ((t185.length : Int) - 1))) = false := by simpa using c46))
                                              (try (have c46b3 : ¬ (x54_2 = (wrap64 ((t185.length : Int) - 1))) := by simpa using c46))
                                              clear c46
                                              by_cases c52 : (((rd_T39 t185 x54_2).f3).size : Int) = a3
                                              · rw [if_pos c52] at H
                                                have c52b0 : ((((rd_T39 t185 x54_2).f3).size : Int) == a3) = true := beq_iff_eq.mpr c52
                                                have c52b1 : ((((rd_T39 t185 x54_2).f3).size : Int) != a3) = false := bne_eq_false_iff_eq.mpr c52
                                                clear c52
                                                have H' := Aside0.mk H
                                                clear H
                                                have hcz53_0 : wc.cell? ⟨gb190, 0, none⟩ = some (.int .i64 ((rd_T39 t185 x54_2).f0)) := (blk_cell BK190.out 0).trans rfl
                                                have hcz53_1 : wc.cell? ⟨gb190, 1, none⟩ = some (.int .i64 ((rd_T39 t185 x54_2).f1)) := (blk_cell BK190.out 1).trans rfl
                                                have hcz53_2 : wc.cell? ⟨gb190, 2, none⟩ = some (.int .i64 ((rd_T39 t185 x54_2).f2)) := (blk_cell BK190.out 2).trans rfl
                                                have hcz53_3 : wc.cell? ⟨gb190, 3, none⟩ = some (.string ((rd_T39 t185 x54_2).f3)) := (blk_cell BK190.out 3).trans rfl
                                                have hfz53_0 := blk_frozen BK190.out 0
                                                have hfz53_1 := blk_frozen BK190.out 1
                                                have hfz53_2 := blk_frozen BK190.out 2
                                                have hfz53_3 := blk_frozen BK190.out 3
                                                go_wp2
                                                go_meet
                                                case rel => exact ⟨_, (false), (by first | rfl | (simp; done) | (simp [*]; done)), H', ⟨by have := HJ4.out; have := HK2.out; have := HJ18.out; have := HJ22.out; have := HJ24.out; first | omega | exact Nat.le_refl _⟩, ⟨by (with_reducible repeat (first | apply Kd.R_alloc | apply Kd.R_drewN | apply Kd.R_drew)); exact HO_9.out⟩, ⟨by (with_reducible repeat (first | apply Kd.R_alloc | apply Kd.R_drewN | apply Kd.R_drew)); exact HO_52.out⟩, ⟨by (with_reducible repeat (first | refine blk_drewN ?_ _ | refine blk_drew ?_ | refine blk_alloc ?_ _)); exact BK190.out⟩, ⟨by repeat (first | (with_reducible first | exact HB.out | apply below_alloc | apply pw_below_drewN | apply below_drew1 | refine below_set ?_ GE190.out) | exact HB.out)⟩⟩
                                              · rw [if_neg c52] at H
                                                have c52b0 : ((((rd_T39 t185 x54_2).f3).size : Int) == a3) = false := beq_eq_false_iff_ne.mpr c52
                                                have c52b1 : ((((rd_T39 t185 x54_2).f3).size : Int) != a3) = true := bne_iff_ne.mpr c52
                                                have H' := Aside0.mk H
                                                clear H
                                                have hcz54_0 : wc.cell? ⟨gb190, 0, none⟩ = some (.int .i64 ((rd_T39 t185 x54_2).f0)) := (blk_cell BK190.out 0).trans rfl
                                                have hcz54_1 : wc.cell? ⟨gb190, 1, none⟩ = some (.int .i64 ((rd_T39 t185 x54_2).f1)) := (blk_cell BK190.out 1).trans rfl
                                                have hcz54_2 : wc.cell? ⟨gb190, 2, none⟩ = some (.int .i64 ((rd_T39 t185 x54_2).f2)) := (blk_cell BK190.out 2).trans rfl
                                                have hcz54_3 : wc.cell? ⟨gb190, 3, none⟩ = some (.string ((rd_T39 t185 x54_2).f3)) := (blk_cell BK190.out 3).trans rfl
                                                have hfz54_0 := blk_frozen BK190.out 0
                                                have hfz54_1 := blk_frozen BK190.out 1
                                                have hfz54_2 := blk_frozen BK190.out 2
                                                have hfz54_3 := blk_frozen BK190.out 3
                                                go_wp2
                                                go_meet
                                                case rel => exact ⟨_, (true), (by first | rfl | (simp; done) | (simp [*]; done)), H', ⟨by have := HJ4.out; have := HK2.out; have := HJ18.out; have := HJ22.out; have := HJ24.out; first | omega | exact Nat.le_refl _⟩, ⟨by (with_reducible repeat (first | apply Kd.R_alloc | apply Kd.R_drewN | apply Kd.R_drew)); exact HO_9.out⟩, ⟨by (with_reducible repeat (first | apply Kd.R_alloc | apply Kd.R_drewN | apply Kd.R_drew)); exact HO_52.out⟩, ⟨by (with_reducible repeat (first | refine blk_drewN ?_ _ | refine blk_drew ?_ | refine blk_alloc ?_ _)); exact BK190.out⟩, ⟨by repeat (first | (with_reducible first | exact HB.out | apply below_alloc | apply pw_below_drewN | apply below_drew1 | refine below_set ?_ GE190.out) | exact HB.out)⟩⟩
                                          · rw [if_neg c45] at H
                                            have c45b0 : (((rd_T39 t185 x54_2).f1) == x14_24) = false := beq_eq_false_iff_ne.mpr c45
                                            have c45b1 : (((rd_T39 t185 x54_2).f1) != x14_24) = true := bne_iff_ne.mpr c45
                                            have H' := Aside0.mk H
                                            clear H
                                            have hcz55_0 : wc.cell? ⟨gb190, 0, none⟩ = some (.int .i64 ((rd_T39 t185 x54_2).f0)) := (blk_cell BK190.out 0).trans rfl
                                            have hcz55_1 : wc.cell? ⟨gb190, 1, none⟩ = some (.int .i64 ((rd_T39 t185 x54_2).f1)) := (blk_cell BK190.out 1).trans rfl
                                            have hcz55_2 : wc.cell? ⟨gb190, 2, none⟩ = some (.int .i64 ((rd_T39 t185 x54_2).f2)) := (blk_cell BK190.out 2).trans rfl
                                            have hcz55_3 : wc.cell? ⟨gb190, 3, none⟩ = some (.string ((rd_T39 t185 x54_2).f3)) := (blk_cell BK190.out 3).trans rfl
                                            have hfz55_0 := blk_frozen BK190.out 0
                                            have hfz55_1 := blk_frozen BK190.out 1
                                            have hfz55_2 := blk_frozen BK190.out 2
                                            have hfz55_3 := blk_frozen BK190.out 3
                                            go_wp2
                                            go_meet
                                            case rel => exact ⟨_, (true), (by first | rfl | (simp; done) | (simp [*]; done)), H', ⟨by have := HJ4.out; have := HK2.out; have := HJ18.out; have := HJ22.out; have := HJ24.out; first | omega | exact Nat.le_refl _⟩, ⟨by (with_reducible repeat (first | apply Kd.R_alloc | apply Kd.R_drewN | apply Kd.R_drew)); exact HO_9.out⟩, ⟨by (with_reducible repeat (first | apply Kd.R_alloc | apply Kd.R_drewN | apply Kd.R_drew)); exact HO_52.out⟩, ⟨by (with_reducible repeat (first | refine blk_drewN ?_ _ | refine blk_drew ?_ | refine blk_alloc ?_ _)); exact BK190.out⟩, ⟨by repeat (first | (with_reducible first | exact HB.out | apply below_alloc | apply pw_below_drewN | apply below_drew1 | refine below_set ?_ GE190.out) | exact HB.out)⟩⟩
                                      · rw [if_neg c30] at H
                                        have c30b0 : (x54_2 == 0) = false := beq_eq_false_iff_ne.mpr c30
                                        have c30b1 : (x54_2 != 0) = true := bne_iff_ne.mpr c30
                                        have H' := Aside0.mk H
                                        clear H
                                        have hcz56_0 : wc.cell? ⟨gb190, 0, none⟩ = some (.int .i64 ((rd_T39 t185 x54_2).f0)) := (blk_cell BK190.out 0).trans rfl
                                        have hcz56_1 : wc.cell? ⟨gb190, 1, none⟩ = some (.int .i64 ((rd_T39 t185 x54_2).f1)) := (blk_cell BK190.out 1).trans rfl
                                        have hcz56_2 : wc.cell? ⟨gb190, 2, none⟩ = some (.int .i64 ((rd_T39 t185 x54_2).f2)) := (blk_cell BK190.out 2).trans rfl
                                        have hcz56_3 : wc.cell? ⟨gb190, 3, none⟩ = some (.string ((rd_T39 t185 x54_2).f3)) := (blk_cell BK190.out 3).trans rfl
                                        have hfz56_0 := blk_frozen BK190.out 0
                                        have hfz56_1 := blk_frozen BK190.out 1
                                        have hfz56_2 := blk_frozen BK190.out 2
                                        have hfz56_3 := blk_frozen BK190.out 3
                                        go_wp2
                                        go_meet
                                        case rel => exact ⟨_, (true), (by first | rfl | (simp; done) | (simp [*]; done)), H', ⟨by have := HJ4.out; have := HK2.out; have := HJ18.out; have := HJ22.out; have := HJ24.out; first | omega | exact Nat.le_refl _⟩, ⟨by (with_reducible repeat (first | apply Kd.R_alloc | apply Kd.R_drewN | apply Kd.R_drew)); exact HO_9.out⟩, ⟨by (with_reducible repeat (first | apply Kd.R_alloc | apply Kd.R_drewN | apply Kd.R_drew)); exact HO_52.out⟩, ⟨by (with_reducible repeat (first | refine blk_drewN ?_ _ | refine blk_drew ?_ | refine blk_alloc ?_ _)); exact BK190.out⟩, ⟨by repeat (first | (with_reducible first | exact HB.out | apply below_alloc | apply pw_below_drewN | apply below_drew1 | refine below_set ?_ GE190.out) | exact HB.out)⟩⟩
                                    · rw [if_neg c29] at H
                                      have c29b0 : (((rd_T39 t185 x54_2).f0) == 1) = false := beq_eq_false_iff_ne.mpr c29
                                      have c29b1 : (((rd_T39 t185 x54_2).f0) != 1) = true := bne_iff_ne.mpr c29
                                      by_cases c57 : x54_2 = 0
                                      · rw [if_pos c57] at H
                                        have c57b0 : (x54_2 == 0) = true := beq_iff_eq.mpr c57
                                        have c57b1 : (x54_2 != 0) = false := bne_eq_false_iff_eq.mpr c57
                                        clear c57
                                        have H' := Aside0.mk H
                                        clear H
                                        have hcz58_0 : wc.cell? ⟨gb190, 0, none⟩ = some (.int .i64 ((rd_T39 t185 x54_2).f0)) := (blk_cell BK190.out 0).trans rfl
                                        have hcz58_1 : wc.cell? ⟨gb190, 1, none⟩ = some (.int .i64 ((rd_T39 t185 x54_2).f1)) := (blk_cell BK190.out 1).trans rfl
                                        have hcz58_2 : wc.cell? ⟨gb190, 2, none⟩ = some (.int .i64 ((rd_T39 t185 x54_2).f2)) := (blk_cell BK190.out 2).trans rfl
                                        have hcz58_3 : wc.cell? ⟨gb190, 3, none⟩ = some (.string ((rd_T39 t185 x54_2).f3)) := (blk_cell BK190.out 3).trans rfl
                                        have hfz58_0 := blk_frozen BK190.out 0
                                        have hfz58_1 := blk_frozen BK190.out 1
                                        have hfz58_2 := blk_frozen BK190.out 2
                                        have hfz58_3 := blk_frozen BK190.out 3
                                        go_wp2
                                        go_meet
                                        case rel => exact ⟨_, (true), (by first | rfl | (simp; done) | (simp [*]; done)), H', ⟨by have := HJ4.out; have := HK2.out; have := HJ18.out; have := HJ22.out; have := HJ24.out; first | omega | exact Nat.le_refl _⟩, ⟨by (with_reducible repeat (first | apply Kd.R_alloc | apply Kd.R_drewN | apply Kd.R_drew)); exact HO_9.out⟩, ⟨by (with_reducible repeat (first | apply Kd.R_alloc | apply Kd.R_drewN | apply Kd.R_drew)); exact HO_52.out⟩, ⟨by (with_reducible repeat (first | refine blk_drewN ?_ _ | refine blk_drew ?_ | refine blk_alloc ?_ _)); exact BK190.out⟩, ⟨by repeat (first | (with_reducible first | exact HB.out | apply below_alloc | apply pw_below_drewN | apply below_drew1 | refine below_set ?_ GE190.out) | exact HB.out)⟩⟩
                                      · rw [if_neg c57] at H
                                        have c57b0 : (x54_2 == 0) = false := beq_eq_false_iff_ne.mpr c57
                                        have c57b1 : (x54_2 != 0) = true := bne_iff_ne.mpr c57
                                        by_cases c59 : x54_2 > 0
                                        · rw [if_pos c59] at H
                                          have c59b0 : decide (0 < x54_2) = true := decide_eq_true c59
                                          clear c59
                                          by_cases c60 : ((rd_T39 t185 x54_2).f0) = 9
                                          · rw [if_pos c60] at H
                                            have c60b0 : (((rd_T39 t185 x54_2).f0) == 9) = true := beq_iff_eq.mpr c60
                                            have c60b1 : (((rd_T39 t185 x54_2).f0) != 9) = false := bne_eq_false_iff_eq.mpr c60
                                            clear c60
                                            by_cases c61 : ((rd_T39 t185 x54_2).f1) = x14_24
                                            · rw [if_pos c61] at H
                                              have c61b0 : (((rd_T39 t185 x54_2).f1) == x14_24) = true := beq_iff_eq.mpr c61
                                              have c61b1 : (((rd_T39 t185 x54_2).f1) != x14_24) = false := bne_eq_false_iff_eq.mpr c61
                                              clear c61
                                              by_cases c62 : (x54_2 == (wrap64 ((t185.length : Int) - 1))) = true
                                              · rw [if_pos c62] at H
                                                have c62b0 : (x54_2 == (wrap64 ((t185.length : Int) - 1))) = true := c62
                                                have cbl_ : bl2_ = true := Nbl2.out.symm.trans c62b0
                                                subst cbl_
                                                (try (have c62b1 : decide (x54_2 = (wrap64 ((t185.length : Int) - 1))) = true := by simpa using c62))
                                                (try (have c62b2 : (x54_2 == (wrap64 ((t185.length : Int) - 1))) = true := by simpa using c62))
                                                clear c62
                                                by_cases c63 : (((rd_T39 t185 x54_2).f3).size : Int) > a3
                                                · rw [if_pos c63] at H
                                                  have c63b0 : decide (a3 < (((rd_T39 t185 x54_2).f3).size : Int)) = true := decide_eq_true c63
                                                  clear c63
                                                  have H' := Aside0.mk H
                                                  clear H
                                                  have hcz64_0 : wc.cell? ⟨gb190, 0, none⟩ = some (.int .i64 ((rd_T39 t185 x54_2).f0)) := (blk_cell BK190.out 0).trans rfl
                                                  have hcz64_1 : wc.cell? ⟨gb190, 1, none⟩ = some (.int .i64 ((rd_T39 t185 x54_2).f1)) := (blk_cell BK190.out 1).trans rfl
                                                  have hcz64_2 : wc.cell? ⟨gb190, 2, none⟩ = some (.int .i64 ((rd_T39 t185 x54_2).f2)) := (blk_cell BK190.out 2).trans rfl
                                                  have hcz64_3 : wc.cell? ⟨gb190, 3, none⟩ = some (.string ((rd_T39 t185 x54_2).f3)) := (blk_cell BK190.out 3).trans rfl
                                                  have hfz64_0 := blk_frozen BK190.out 0
                                                  have hfz64_1 := blk_frozen BK190.out 1
                                                  have hfz64_2 := blk_frozen BK190.out 2
                                                  have hfz64_3 := blk_frozen BK190.out 3
                                                  go_wp2
                                                  go_meet
                                                  case rel => exact ⟨_, (true), (by first | rfl | (simp; done) | (simp [*]; done)), H', ⟨by have := HJ4.out; have := HK2.out; have := HJ18.out; have := HJ22.out; have := HJ24.out; first | omega | exact Nat.le_refl _⟩, ⟨by (with_reducible repeat (first | apply Kd.R_alloc | apply Kd.R_drewN | apply Kd.R_drew)); exact HO_9.out⟩, ⟨by (with_reducible repeat (first | apply Kd.R_alloc | apply Kd.R_drewN | apply Kd.R_drew)); exact HO_52.out⟩, ⟨by (with_reducible repeat (first | refine blk_drewN ?_ _ | refine blk_drew ?_ | refine blk_alloc ?_ _)); exact BK190.out⟩, ⟨by repeat (first | (with_reducible first | exact HB.out | apply below_alloc | apply pw_below_drewN | apply below_drew1 | refine below_set ?_ GE190.out) | exact HB.out)⟩⟩
                                                · rw [if_neg c63] at H
                                                  have c63b0 : decide (a3 < (((rd_T39 t185 x54_2).f3).size : Int)) = false := decide_eq_false c63
                                                  clear c63
                                                  by_cases c65 : ((rd_T39 t185 x54_2).f3).toList = ([] : List UInt8)
                                                  · rw [if_pos c65] at H
                                                    have c65b0 : (((rd_T39 t185 x54_2).f3).toList == ([] : List UInt8)) = true := beq_iff_eq.mpr c65
                                                    have c65b1 : (((rd_T39 t185 x54_2).f3).toList != ([] : List UInt8)) = false := bne_eq_false_iff_eq.mpr c65
                                                    clear c65
                                                    have H' := Aside0.mk H
                                                    clear H
                                                    have hcz66_0 : wc.cell? ⟨gb190, 0, none⟩ = some (.int .i64 ((rd_T39 t185 x54_2).f0)) := (blk_cell BK190.out 0).trans rfl
                                                    have hcz66_1 : wc.cell? ⟨gb190, 1, none⟩ = some (.int .i64 ((rd_T39 t185 x54_2).f1)) := (blk_cell BK190.out 1).trans rfl
                                                    have hcz66_2 : wc.cell? ⟨gb190, 2, none⟩ = some (.int .i64 ((rd_T39 t185 x54_2).f2)) := (blk_cell BK190.out 2).trans rfl
                                                    have hcz66_3 : wc.cell? ⟨gb190, 3, none⟩ = some (.string ((rd_T39 t185 x54_2).f3)) := (blk_cell BK190.out 3).trans rfl
                                                    have hfz66_0 := blk_frozen BK190.out 0
                                                    have hfz66_1 := blk_frozen BK190.out 1
                                                    have hfz66_2 := blk_frozen BK190.out 2
                                                    have hfz66_3 := blk_frozen BK190.out 3
                                                    go_wp2
                                                    go_meet
                                                    case rel => exact ⟨_, ((a1.toList != ([] : List UInt8))), (by first | rfl | exact congrArg Value.bool (bne_nil2_ _).symm | exact congrArg Value.bool (bne_nil2_ _) | (simp; done) | (simp [*]; done)), H', ⟨by have := HJ4.out; have := HK2.out; have := HJ18.out; have := HJ22.out; have := HJ24.out; first | omega | exact Nat.le_refl _⟩, ⟨by (with_reducible repeat (first | apply Kd.R_alloc | apply Kd.R_drewN | apply Kd.R_drew)); exact HO_9.out⟩, ⟨by (with_reducible repeat (first | apply Kd.R_alloc | apply Kd.R_drewN | apply Kd.R_drew)); exact HO_52.out⟩, ⟨by (with_reducible repeat (first | refine blk_drewN ?_ _ | refine blk_drew ?_ | refine blk_alloc ?_ _)); exact BK190.out⟩, ⟨by repeat (first | (with_reducible first | exact HB.out | apply below_alloc | apply pw_below_drewN | apply below_drew1 | refine below_set ?_ GE190.out) | exact HB.out)⟩⟩
                                                  · rw [if_neg c65] at H
                                                    have c65b0 : (((rd_T39 t185 x54_2).f3).toList == ([] : List UInt8)) = false := beq_eq_false_iff_ne.mpr c65
                                                    have c65b1 : (((rd_T39 t185 x54_2).f3).toList != ([] : List UInt8)) = true := bne_iff_ne.mpr c65
                                                    have H' := Aside0.mk H
                                                    clear H
                                                    have hcz67_0 : wc.cell? ⟨gb190, 0, none⟩ = some (.int .i64 ((rd_T39 t185 x54_2).f0)) := (blk_cell BK190.out 0).trans rfl
                                                    have hcz67_1 : wc.cell? ⟨gb190, 1, none⟩ = some (.int .i64 ((rd_T39 t185 x54_2).f1)) := (blk_cell BK190.out 1).trans rfl
                                                    have hcz67_2 : wc.cell? ⟨gb190, 2, none⟩ = some (.int .i64 ((rd_T39 t185 x54_2).f2)) := (blk_cell BK190.out 2).trans rfl
                                                    have hcz67_3 : wc.cell? ⟨gb190, 3, none⟩ = some (.string ((rd_T39 t185 x54_2).f3)) := (blk_cell BK190.out 3).trans rfl
                                                    have hfz67_0 := blk_frozen BK190.out 0
                                                    have hfz67_1 := blk_frozen BK190.out 1
                                                    have hfz67_2 := blk_frozen BK190.out 2
                                                    have hfz67_3 := blk_frozen BK190.out 3
                                                    go_wp2
                                                    go_meet
                                                    case rel => exact ⟨_, (false), (by first | rfl | (simp; done) | (simp [*]; done)), H', ⟨by have := HJ4.out; have := HK2.out; have := HJ18.out; have := HJ22.out; have := HJ24.out; first | omega | exact Nat.le_refl _⟩, ⟨by (with_reducible repeat (first | apply Kd.R_alloc | apply Kd.R_drewN | apply Kd.R_drew)); exact HO_9.out⟩, ⟨by (with_reducible repeat (first | apply Kd.R_alloc | apply Kd.R_drewN | apply Kd.R_drew)); exact HO_52.out⟩, ⟨by (with_reducible repeat (first | refine blk_drewN ?_ _ | refine blk_drew ?_ | refine blk_alloc ?_ _)); exact BK190.out⟩, ⟨by repeat (first | (with_reducible first | exact HB.out | apply below_alloc | apply pw_below_drewN | apply below_drew1 | refine below_set ?_ GE190.out) | exact HB.out)⟩⟩
                                              · rw [if_neg c62] at H
                                                have c62b0 : (x54_2 == (wrap64 ((t185.length : Int) - 1))) = false := by simpa using c62
                                                have cbl_ : bl2_ = false := Nbl2.out.symm.trans c62b0
                                                subst cbl_
                                                (try (have c62b1 : decide (x54_2 = (wrap64 ((t185.length : Int) - 1))) = false := by simpa using c62))
                                                (try (have c62b2 : (x54_2 == (wrap64 ((t185.length : Int) - 1))) = false := by simpa using c62))
                                                (try (have c62b3 : ¬ (x54_2 = (wrap64 ((t185.length : Int) - 1))) := by simpa using c62))
                                                clear c62
                                                by_cases c68 : (((rd_T39 t185 x54_2).f3).size : Int) = a3
                                                · rw [if_pos c68] at H
                                                  have c68b0 : ((((rd_T39 t185 x54_2).f3).size : Int) == a3) = true := beq_iff_eq.mpr c68
                                                  have c68b1 : ((((rd_T39 t185 x54_2).f3).size : Int) != a3) = false := bne_eq_false_iff_eq.mpr c68
                                                  clear c68
                                                  have H' := Aside0.mk H
                                                  clear H
                                                  have hcz69_0 : wc.cell? ⟨gb190, 0, none⟩ = some (.int .i64 ((rd_T39 t185 x54_2).f0)) := (blk_cell BK190.out 0).trans rfl
                                                  have hcz69_1 : wc.cell? ⟨gb190, 1, none⟩ = some (.int .i64 ((rd_T39 t185 x54_2).f1)) := (blk_cell BK190.out 1).trans rfl
                                                  have hcz69_2 : wc.cell? ⟨gb190, 2, none⟩ = some (.int .i64 ((rd_T39 t185 x54_2).f2)) := (blk_cell BK190.out 2).trans rfl
                                                  have hcz69_3 : wc.cell? ⟨gb190, 3, none⟩ = some (.string ((rd_T39 t185 x54_2).f3)) := (blk_cell BK190.out 3).trans rfl
                                                  have hfz69_0 := blk_frozen BK190.out 0
                                                  have hfz69_1 := blk_frozen BK190.out 1
                                                  have hfz69_2 := blk_frozen BK190.out 2
                                                  have hfz69_3 := blk_frozen BK190.out 3
                                                  go_wp2
                                                  go_meet
                                                  case rel => exact ⟨_, (false), (by first | rfl | (simp; done) | (simp [*]; done)), H', ⟨by have := HJ4.out; have := HK2.out; have := HJ18.out; have := HJ22.out; have := HJ24.out; first | omega | exact Nat.le_refl _⟩, ⟨by (with_reducible repeat (first | apply Kd.R_alloc | apply Kd.R_drewN | apply Kd.R_drew)); exact HO_9.out⟩, ⟨by (with_reducible repeat (first | apply Kd.R_alloc | apply Kd.R_drewN | apply Kd.R_drew)); exact HO_52.out⟩, ⟨by (with_reducible repeat (first | refine blk_drewN ?_ _ | refine blk_drew ?_ | refine blk_alloc ?_ _)); exact BK190.out⟩, ⟨by repeat (first | (with_reducible first | exact HB.out | apply below_alloc | apply pw_below_drewN | apply below_drew1 | refine below_set ?_ GE190.out) | exact HB.out)⟩⟩
                                                · rw [if_neg c68] at H
                                                  have c68b0 : ((((rd_T39 t185 x54_2).f3).size : Int) == a3) = false := beq_eq_false_iff_ne.mpr c68
                                                  have c68b1 : ((((rd_T39 t185 x54_2).f3).size : Int) != a3) = true := bne_iff_ne.mpr c68
                                                  have H' := Aside0.mk H
                                                  clear H
                                                  have hcz70_0 : wc.cell? ⟨gb190, 0, none⟩ = some (.int .i64 ((rd_T39 t185 x54_2).f0)) := (blk_cell BK190.out 0).trans rfl
                                                  have hcz70_1 : wc.cell? ⟨gb190, 1, none⟩ = some (.int .i64 ((rd_T39 t185 x54_2).f1)) := (blk_cell BK190.out 1).trans rfl
                                                  have hcz70_2 : wc.cell? ⟨gb190, 2, none⟩ = some (.int .i64 ((rd_T39 t185 x54_2).f2)) := (blk_cell BK190.out 2).trans rfl
                                                  have hcz70_3 : wc.cell? ⟨gb190, 3, none⟩ = some (.string ((rd_T39 t185 x54_2).f3)) := (blk_cell BK190.out 3).trans rfl
                                                  have hfz70_0 := blk_frozen BK190.out 0
                                                  have hfz70_1 := blk_frozen BK190.out 1
                                                  have hfz70_2 := blk_frozen BK190.out 2
                                                  have hfz70_3 := blk_frozen BK190.out 3
                                                  go_wp2
                                                  go_meet
                                                  case rel => exact ⟨_, (true), (by first | rfl | (simp; done) | (simp [*]; done)), H', ⟨by have := HJ4.out; have := HK2.out; have := HJ18.out; have := HJ22.out; have := HJ24.out; first | omega | exact Nat.le_refl _⟩, ⟨by (with_reducible repeat (first | apply Kd.R_alloc | apply Kd.R_drewN | apply Kd.R_drew)); exact HO_9.out⟩, ⟨by (with_reducible repeat (first | apply Kd.R_alloc | apply Kd.R_drewN | apply Kd.R_drew)); exact HO_52.out⟩, ⟨by (with_reducible repeat (first | refine blk_drewN ?_ _ | refine blk_drew ?_ | refine blk_alloc ?_ _)); exact BK190.out⟩, ⟨by repeat (first | (with_reducible first | exact HB.out | apply below_alloc | apply pw_below_drewN | apply below_drew1 | refine below_set ?_ GE190.out) | exact HB.out)⟩⟩
                                            · rw [if_neg c61] at H
                                              have c61b0 : (((rd_T39 t185 x54_2).f1) == x14_24) = false := beq_eq_false_iff_ne.mpr c61
                                              have c61b1 : (((rd_T39 t185 x54_2).f1) != x14_24) = true := bne_iff_ne.mpr c61
                                              have H' := Aside0.mk H
                                              clear H
                                              have hcz71_0 : wc.cell? ⟨gb190, 0, none⟩ = some (.int .i64 ((rd_T39 t185 x54_2).f0)) := (blk_cell BK190.out 0).trans rfl
                                              have hcz71_1 : wc.cell? ⟨gb190, 1, none⟩ = some (.int .i64 ((rd_T39 t185 x54_2).f1)) := (blk_cell BK190.out 1).trans rfl
                                              have hcz71_2 : wc.cell? ⟨gb190, 2, none⟩ = some (.int .i64 ((rd_T39 t185 x54_2).f2)) := (blk_cell BK190.out 2).trans rfl
                                              have hcz71_3 : wc.cell? ⟨gb190, 3, none⟩ = some (.string ((rd_T39 t185 x54_2).f3)) := (blk_cell BK190.out 3).trans rfl
                                              have hfz71_0 := blk_frozen BK190.out 0
                                              have hfz71_1 := blk_frozen BK190.out 1
                                              have hfz71_2 := blk_frozen BK190.out 2
                                              have hfz71_3 := blk_frozen BK190.out 3
                                              go_wp2
                                              go_meet
                                              case rel => exact ⟨_, (true), (by first | rfl | (simp; done) | (simp [*]; done)), H', ⟨by have := HJ4.out; have := HK2.out; have := HJ18.out; have := HJ22.out; have := HJ24.out; first | omega | exact Nat.le_refl _⟩, ⟨by (with_reducible repeat (first | apply Kd.R_alloc | apply Kd.R_drewN | apply Kd.R_drew)); exact HO_9.out⟩, ⟨by (with_reducible repeat (first | apply Kd.R_alloc | apply Kd.R_drewN | apply Kd.R_drew)); exact HO_52.out⟩, ⟨by (with_reducible repeat (first | refine blk_drewN ?_ _ | refine blk_drew ?_ | refine blk_alloc ?_ _)); exact BK190.out⟩, ⟨by repeat (first | (with_reducible first | exact HB.out | apply below_alloc | apply pw_below_drewN | apply below_drew1 | refine below_set ?_ GE190.out) | exact HB.out)⟩⟩
                                          · rw [if_neg c60] at H
                                            have c60b0 : (((rd_T39 t185 x54_2).f0) == 9) = false := beq_eq_false_iff_ne.mpr c60
                                            have c60b1 : (((rd_T39 t185 x54_2).f0) != 9) = true := bne_iff_ne.mpr c60
                                            have H' := Aside0.mk H
                                            clear H
                                            have hcz72_0 : wc.cell? ⟨gb190, 0, none⟩ = some (.int .i64 ((rd_T39 t185 x54_2).f0)) := (blk_cell BK190.out 0).trans rfl
                                            have hcz72_1 : wc.cell? ⟨gb190, 1, none⟩ = some (.int .i64 ((rd_T39 t185 x54_2).f1)) := (blk_cell BK190.out 1).trans rfl
                                            have hcz72_2 : wc.cell? ⟨gb190, 2, none⟩ = some (.int .i64 ((rd_T39 t185 x54_2).f2)) := (blk_cell BK190.out 2).trans rfl
                                            have hcz72_3 : wc.cell? ⟨gb190, 3, none⟩ = some (.string ((rd_T39 t185 x54_2).f3)) := (blk_cell BK190.out 3).trans rfl
                                            have hfz72_0 := blk_frozen BK190.out 0
                                            have hfz72_1 := blk_frozen BK190.out 1
                                            have hfz72_2 := blk_frozen BK190.out 2
                                            have hfz72_3 := blk_frozen BK190.out 3
                                            go_wp2
                                            go_meet
                                            case rel => exact ⟨_, (true), (by first | rfl | (simp; done) | (simp [*]; done)), H', ⟨by have := HJ4.out; have := HK2.out; have := HJ18.out; have := HJ22.out; have := HJ24.out; first | omega | exact Nat.le_refl _⟩, ⟨by (with_reducible repeat (first | apply Kd.R_alloc | apply Kd.R_drewN | apply Kd.R_drew)); exact HO_9.out⟩, ⟨by (with_reducible repeat (first | apply Kd.R_alloc | apply Kd.R_drewN | apply Kd.R_drew)); exact HO_52.out⟩, ⟨by (with_reducible repeat (first | refine blk_drewN ?_ _ | refine blk_drew ?_ | refine blk_alloc ?_ _)); exact BK190.out⟩, ⟨by repeat (first | (with_reducible first | exact HB.out | apply below_alloc | apply pw_below_drewN | apply below_drew1 | refine below_set ?_ GE190.out) | exact HB.out)⟩⟩
                                        · rw [if_neg c59] at H
                                          have c59b0 : decide (0 < x54_2) = false := decide_eq_false c59
                                          clear c59
                                          by_cases c73 : ((rd_T39 t185 x54_2).f1) = x14_24
                                          · rw [if_pos c73] at H
                                            have c73b0 : (((rd_T39 t185 x54_2).f1) == x14_24) = true := beq_iff_eq.mpr c73
                                            have c73b1 : (((rd_T39 t185 x54_2).f1) != x14_24) = false := bne_eq_false_iff_eq.mpr c73
                                            clear c73
                                            by_cases c74 : (x54_2 == (wrap64 ((t185.length : Int) - 1))) = true
                                            · rw [if_pos c74] at H
                                              have c74b0 : (x54_2 == (wrap64 ((t185.length : Int) - 1))) = true := c74
                                              have cbl_ : bl2_ = true := Nbl2.out.symm.trans c74b0
                                              subst cbl_
                                              (try (have c74b1 : decide (x54_2 = (wrap64 ((t185.length : Int) - 1))) = true := by simpa using c74))
                                              (try (have c74b2 : (x54_2 == (wrap64 ((t185.length : Int) - 1))) = true := by simpa using c74))
                                              clear c74
                                              by_cases c75 : (((rd_T39 t185 x54_2).f3).size : Int) > a3
                                              · rw [if_pos c75] at H
                                                have c75b0 : decide (a3 < (((rd_T39 t185 x54_2).f3).size : Int)) = true := decide_eq_true c75
                                                clear c75
                                                have H' := Aside0.mk H
                                                clear H
                                                have hcz76_0 : wc.cell? ⟨gb190, 0, none⟩ = some (.int .i64 ((rd_T39 t185 x54_2).f0)) := (blk_cell BK190.out 0).trans rfl
                                                have hcz76_1 : wc.cell? ⟨gb190, 1, none⟩ = some (.int .i64 ((rd_T39 t185 x54_2).f1)) := (blk_cell BK190.out 1).trans rfl
                                                have hcz76_2 : wc.cell? ⟨gb190, 2, none⟩ = some (.int .i64 ((rd_T39 t185 x54_2).f2)) := (blk_cell BK190.out 2).trans rfl
                                                have hcz76_3 : wc.cell? ⟨gb190, 3, none⟩ = some (.string ((rd_T39 t185 x54_2).f3)) := (blk_cell BK190.out 3).trans rfl
                                                have hfz76_0 := blk_frozen BK190.out 0
                                                have hfz76_1 := blk_frozen BK190.out 1
                                                have hfz76_2 := blk_frozen BK190.out 2
                                                have hfz76_3 := blk_frozen BK190.out 3
                                                go_wp2
                                                go_meet
                                                case rel => exact ⟨_, (true), (by first | rfl | (simp; done) | (simp [*]; done)), H', ⟨by have := HJ4.out; have := HK2.out; have := HJ18.out; have := HJ22.out; have := HJ24.out; first | omega | exact Nat.le_refl _⟩, ⟨by (with_reducible repeat (first | apply Kd.R_alloc | apply Kd.R_drewN | apply Kd.R_drew)); exact HO_9.out⟩, ⟨by (with_reducible repeat (first | apply Kd.R_alloc | apply Kd.R_drewN | apply Kd.R_drew)); exact HO_52.out⟩, ⟨by (with_reducible repeat (first | refine blk_drewN ?_ _ | refine blk_drew ?_ | refine blk_alloc ?_ _)); exact BK190.out⟩, ⟨by repeat (first | (with_reducible first | exact HB.out | apply below_alloc | apply pw_below_drewN | apply below_drew1 | refine below_set ?_ GE190.out) | exact HB.out)⟩⟩
                                              · rw [if_neg c75] at H
                                                have c75b0 : decide (a3 < (((rd_T39 t185 x54_2).f3).size : Int)) = false := decide_eq_false c75
                                                clear c75
                                                by_cases c77 : ((rd_T39 t185 x54_2).f3).toList = ([] : List UInt8)
                                                · rw [if_pos c77] at H
                                                  have c77b0 : (((rd_T39 t185 x54_2).f3).toList == ([] : List UInt8)) = true := beq_iff_eq.mpr c77
                                                  have c77b1 : (((rd_T39 t185 x54_2).f3).toList != ([] : List UInt8)) = false := bne_eq_false_iff_eq.mpr c77
                                                  clear c77
                                                  have H' := Aside0.mk H
                                                  clear H
                                                  have hcz78_0 : wc.cell? ⟨gb190, 0, none⟩ = some (.int .i64 ((rd_T39 t185 x54_2).f0)) := (blk_cell BK190.out 0).trans rfl
                                                  have hcz78_1 : wc.cell? ⟨gb190, 1, none⟩ = some (.int .i64 ((rd_T39 t185 x54_2).f1)) := (blk_cell BK190.out 1).trans rfl
                                                  have hcz78_2 : wc.cell? ⟨gb190, 2, none⟩ = some (.int .i64 ((rd_T39 t185 x54_2).f2)) := (blk_cell BK190.out 2).trans rfl
                                                  have hcz78_3 : wc.cell? ⟨gb190, 3, none⟩ = some (.string ((rd_T39 t185 x54_2).f3)) := (blk_cell BK190.out 3).trans rfl
                                                  have hfz78_0 := blk_frozen BK190.out 0
                                                  have hfz78_1 := blk_frozen BK190.out 1
                                                  have hfz78_2 := blk_frozen BK190.out 2
                                                  have hfz78_3 := blk_frozen BK190.out 3
                                                  go_wp2
                                                  go_meet
                                                  case rel => exact ⟨_, ((a1.toList != ([] : List UInt8))), (by first | rfl | exact congrArg Value.bool (bne_nil2_ _).symm | exact congrArg Value.bool (bne_nil2_ _) | (simp; done) | (simp [*]; done)), H', ⟨by have := HJ4.out; have := HK2.out; have := HJ18.out; have := HJ22.out; have := HJ24.out; first | omega | exact Nat.le_refl _⟩, ⟨by (with_reducible repeat (first | apply Kd.R_alloc | apply Kd.R_drewN | apply Kd.R_drew)); exact HO_9.out⟩, ⟨by (with_reducible repeat (first | apply Kd.R_alloc | apply Kd.R_drewN | apply Kd.R_drew)); exact HO_52.out⟩, ⟨by (with_reducible repeat (first | refine blk_drewN ?_ _ | refine blk_drew ?_ | refine blk_alloc ?_ _)); exact BK190.out⟩, ⟨by repeat (first | (with_reducible first | exact HB.out | apply below_alloc | apply pw_below_drewN | apply below_drew1 | refine below_set ?_ GE190.out) | exact HB.out)⟩⟩
                                                · rw [if_neg c77] at H
                                                  have c77b0 : (((rd_T39 t185 x54_2).f3).toList == ([] : List UInt8)) = false := beq_eq_false_iff_ne.mpr c77
                                                  have c77b1 : (((rd_T39 t185 x54_2).f3).toList != ([] : List UInt8)) = true := bne_iff_ne.mpr c77
                                                  have H' := Aside0.mk H
                                                  clear H
                                                  have hcz79_0 : wc.cell? ⟨gb190, 0, none⟩ = some (.int .i64 ((rd_T39 t185 x54_2).f0)) := (blk_cell BK190.out 0).trans rfl
                                                  have hcz79_1 : wc.cell? ⟨gb190, 1, none⟩ = some (.int .i64 ((rd_T39 t185 x54_2).f1)) := (blk_cell BK190.out 1).trans rfl
                                                  have hcz79_2 : wc.cell? ⟨gb190, 2, none⟩ = some (.int .i64 ((rd_T39 t185 x54_2).f2)) := (blk_cell BK190.out 2).trans rfl
                                                  have hcz79_3 : wc.cell? ⟨gb190, 3, none⟩ = some (.string ((rd_T39 t185 x54_2).f3)) := (blk_cell BK190.out 3).trans rfl
                                                  have hfz79_0 := blk_frozen BK190.out 0
                                                  have hfz79_1 := blk_frozen BK190.out 1
                                                  have hfz79_2 := blk_frozen BK190.out 2
                                                  have hfz79_3 := blk_frozen BK190.out 3
                                                  go_wp2
                                                  go_meet
                                                  case rel => exact ⟨_, (false), (by first | rfl | (simp; done) | (simp [*]; done)), H', ⟨by have := HJ4.out; have := HK2.out; have := HJ18.out; have := HJ22.out; have := HJ24.out; first | omega | exact Nat.le_refl _⟩, ⟨by (with_reducible repeat (first | apply Kd.R_alloc | apply Kd.R_drewN | apply Kd.R_drew)); exact HO_9.out⟩, ⟨by (with_reducible repeat (first | apply Kd.R_alloc | apply Kd.R_drewN | apply Kd.R_drew)); exact HO_52.out⟩, ⟨by (with_reducible repeat (first | refine blk_drewN ?_ _ | refine blk_drew ?_ | refine blk_alloc ?_ _)); exact BK190.out⟩, ⟨by repeat (first | (with_reducible first | exact HB.out | apply below_alloc | apply pw_below_drewN | apply below_drew1 | refine below_set ?_ GE190.out) | exact HB.out)⟩⟩
                                            · rw [if_neg c74] at H
                                              have c74b0 : (x54_2 == (wrap64 ((t185.length : Int) - 1))) = false := by simpa using c74
                                              have cbl_ : bl2_ = false := Nbl2.out.symm.trans c74b0
                                              subst cbl_
                                              (try (have c74b1 : decide (x54_2 = (wrap64 ((t185.length : Int) - 1))) = false := by simpa using c74))
                                              (try (have c74b2 : (x54_2 == (wrap64 ((t185.length : Int) - 1))) = false := by simpa using c74))
                                              (try (have c74b3 : ¬ (x54_2 = (wrap64 ((t185.length : Int) - 1))) := by simpa using c74))
                                              clear c74
                                              by_cases c80 : (((rd_T39 t185 x54_2).f3).size : Int) = a3
                                              · rw [if_pos c80] at H
                                                have c80b0 : ((((rd_T39 t185 x54_2).f3).size : Int) == a3) = true := beq_iff_eq.mpr c80
                                                have c80b1 : ((((rd_T39 t185 x54_2).f3).size : Int) != a3) = false := bne_eq_false_iff_eq.mpr c80
                                                clear c80
                                                have H' := Aside0.mk H
                                                clear H
                                                have hcz81_0 : wc.cell? ⟨gb190, 0, none⟩ = some (.int .i64 ((rd_T39 t185 x54_2).f0)) := (blk_cell BK190.out 0).trans rfl
                                                have hcz81_1 : wc.cell? ⟨gb190, 1, none⟩ = some (.int .i64 ((rd_T39 t185 x54_2).f1)) := (blk_cell BK190.out 1).trans rfl
                                                have hcz81_2 : wc.cell? ⟨gb190, 2, none⟩ = some (.int .i64 ((rd_T39 t185 x54_2).f2)) := (blk_cell BK190.out 2).trans rfl
                                                have hcz81_3 : wc.cell? ⟨gb190, 3, none⟩ = some (.string ((rd_T39 t185 x54_2).f3)) := (blk_cell BK190.out 3).trans rfl
                                                have hfz81_0 := blk_frozen BK190.out 0
                                                have hfz81_1 := blk_frozen BK190.out 1
                                                have hfz81_2 := blk_frozen BK190.out 2
                                                have hfz81_3 := blk_frozen BK190.out 3
                                                go_wp2
                                                go_meet
                                                case rel => exact ⟨_, (false), (by first | rfl | (simp; done) | (simp [*]; done)), H', ⟨by have := HJ4.out; have := HK2.out; have := HJ18.out; have := HJ22.out; have := HJ24.out; first | omega | exact Nat.le_refl _⟩, ⟨by (with_reducible repeat (first | apply Kd.R_alloc | apply Kd.R_drewN | apply Kd.R_drew)); exact HO_9.out⟩, ⟨by (with_reducible repeat (first | apply Kd.R_alloc | apply Kd.R_drewN | apply Kd.R_drew)); exact HO_52.out⟩, ⟨by (with_reducible repeat (first | refine blk_drewN ?_ _ | refine blk_drew ?_ | refine blk_alloc ?_ _)); exact BK190.out⟩, ⟨by repeat (first | (with_reducible first | exact HB.out | apply below_alloc | apply pw_below_drewN | apply below_drew1 | refine below_set ?_ GE190.out) | exact HB.out)⟩⟩
                                              · rw [if_neg c80] at H
                                                have c80b0 : ((((rd_T39 t185 x54_2).f3).size : Int) == a3) = false := beq_eq_false_iff_ne.mpr c80
                                                have c80b1 : ((((rd_T39 t185 x54_2).f3).size : Int) != a3) = true := bne_iff_ne.mpr c80
                                                have H' := Aside0.mk H
                                                clear H
                                                have hcz82_0 : wc.cell? ⟨gb190, 0, none⟩ = some (.int .i64 ((rd_T39 t185 x54_2).f0)) := (blk_cell BK190.out 0).trans rfl
                                                have hcz82_1 : wc.cell? ⟨gb190, 1, none⟩ = some (.int .i64 ((rd_T39 t185 x54_2).f1)) := (blk_cell BK190.out 1).trans rfl
                                                have hcz82_2 : wc.cell? ⟨gb190, 2, none⟩ = some (.int .i64 ((rd_T39 t185 x54_2).f2)) := (blk_cell BK190.out 2).trans rfl
                                                have hcz82_3 : wc.cell? ⟨gb190, 3, none⟩ = some (.string ((rd_T39 t185 x54_2).f3)) := (blk_cell BK190.out 3).trans rfl
                                                have hfz82_0 := blk_frozen BK190.out 0
                                                have hfz82_1 := blk_frozen BK190.out 1
                                                have hfz82_2 := blk_frozen BK190.out 2
                                                have hfz82_3 := blk_frozen BK190.out 3
                                                go_wp2
                                                go_meet
                                                case rel => exact ⟨_, (true), (by first | rfl | (simp; done) | (simp [*]; done)), H', ⟨by have := HJ4.out; have := HK2.out; have := HJ18.out; have := HJ22.out; have := HJ24.out; first | omega | exact Nat.le_refl _⟩, ⟨by (with_reducible repeat (first | apply Kd.R_alloc | apply Kd.R_drewN | apply Kd.R_drew)); exact HO_9.out⟩, ⟨by (with_reducible repeat (first | apply Kd.R_alloc | apply Kd.R_drewN | apply Kd.R_drew)); exact HO_52.out⟩, ⟨by (with_reducible repeat (first | refine blk_drewN ?_ _ | refine blk_drew ?_ | refine blk_alloc ?_ _)); exact BK190.out⟩, ⟨by repeat (first | (with_reducible first | exact HB.out | apply below_alloc | apply pw_below_drewN | apply below_drew1 | refine below_set ?_ GE190.out) | exact HB.out)⟩⟩
                                          · rw [if_neg c73] at H
                                            have c73b0 : (((rd_T39 t185 x54_2).f1) == x14_24) = false := beq_eq_false_iff_ne.mpr c73
                                            have c73b1 : (((rd_T39 t185 x54_2).f1) != x14_24) = true := bne_iff_ne.mpr c73
                                            have H' := Aside0.mk H
                                            clear H
                                            have hcz83_0 : wc.cell? ⟨gb190, 0, none⟩ = some (.int .i64 ((rd_T39 t185 x54_2).f0)) := (blk_cell BK190.out 0).trans rfl
                                            have hcz83_1 : wc.cell? ⟨gb190, 1, none⟩ = some (.int .i64 ((rd_T39 t185 x54_2).f1)) := (blk_cell BK190.out 1).trans rfl
                                            have hcz83_2 : wc.cell? ⟨gb190, 2, none⟩ = some (.int .i64 ((rd_T39 t185 x54_2).f2)) := (blk_cell BK190.out 2).trans rfl
                                            have hcz83_3 : wc.cell? ⟨gb190, 3, none⟩ = some (.string ((rd_T39 t185 x54_2).f3)) := (blk_cell BK190.out 3).trans rfl
                                            have hfz83_0 := blk_frozen BK190.out 0
                                            have hfz83_1 := blk_frozen BK190.out 1
                                            have hfz83_2 := blk_frozen BK190.out 2
                                            have hfz83_3 := blk_frozen BK190.out 3
                                            go_wp2
                                            go_meet
                                            case rel => exact ⟨_, (true), (by first | rfl | (simp; done) | (simp [*]; done)), H', ⟨by have := HJ4.out; have := HK2.out; have := HJ18.out; have := HJ22.out; have := HJ24.out; first | omega | exact Nat.le_refl _⟩, ⟨by (with_reducible repeat (first | apply Kd.R_alloc | apply Kd.R_drewN | apply Kd.R_drew)); exact HO_9.out⟩, ⟨by (with_reducible repeat (first | apply Kd.R_alloc | apply Kd.R_drewN | apply Kd.R_drew)); exact HO_52.out⟩, ⟨by (with_reducible repeat (first | refine blk_drewN ?_ _ | refine blk_drew ?_ | refine blk_alloc ?_ _)); exact BK190.out⟩, ⟨by repeat (first | (with_reducible first | exact HB.out | apply below_alloc | apply pw_below_drewN | apply below_drew1 | refine below_set ?_ GE190.out) | exact HB.out)⟩⟩
                                  · rw [if_neg c28] at H
                                    have c28b0 : (((rd_T39 t185 x54_2).f2) == a0) = false := beq_eq_false_iff_ne.mpr c28
                                    have c28b1 : (((rd_T39 t185 x54_2).f2) != a0) = true := bne_iff_ne.mpr c28
                                    (first | rw [c28b0] | (simp only [i64_w, i32_w]; rw [c28b0]) | skip)
                                    have H' := Aside0.mk H
                                    clear H
                                    have hcz84_0 : wc.cell? ⟨gb190, 0, none⟩ = some (.int .i64 ((rd_T39 t185 x54_2).f0)) := (blk_cell BK190.out 0).trans rfl
                                    have hcz84_1 : wc.cell? ⟨gb190, 1, none⟩ = some (.int .i64 ((rd_T39 t185 x54_2).f1)) := (blk_cell BK190.out 1).trans rfl
                                    have hcz84_2 : wc.cell? ⟨gb190, 2, none⟩ = some (.int .i64 ((rd_T39 t185 x54_2).f2)) := (blk_cell BK190.out 2).trans rfl
                                    have hcz84_3 : wc.cell? ⟨gb190, 3, none⟩ = some (.string ((rd_T39 t185 x54_2).f3)) := (blk_cell BK190.out 3).trans rfl
                                    have hfz84_0 := blk_frozen BK190.out 0
                                    have hfz84_1 := blk_frozen BK190.out 1
                                    have hfz84_2 := blk_frozen BK190.out 2
                                    have hfz84_3 := blk_frozen BK190.out 3
                                    go_wp2
                                    go_meet
                                    case rel => exact ⟨_, (true), (by first | rfl | (simp; done) | (simp [*]; done)), H', ⟨by have := HJ4.out; have := HK2.out; have := HJ18.out; have := HJ22.out; have := HJ24.out; first | omega | exact Nat.le_refl _⟩, ⟨by (with_reducible repeat (first | apply Kd.R_alloc | apply Kd.R_drewN | apply Kd.R_drew)); exact HO_9.out⟩, ⟨by (with_reducible repeat (first | apply Kd.R_alloc | apply Kd.R_drewN | apply Kd.R_drew)); exact HO_52.out⟩, ⟨by (with_reducible repeat (first | refine blk_drewN ?_ _ | refine blk_drew ?_ | refine blk_alloc ?_ _)); exact BK190.out⟩, ⟨by repeat (first | (with_reducible first | exact HB.out | apply below_alloc | apply pw_below_drewN | apply below_drew1 | refine below_set ?_ GE190.out) | exact HB.out)⟩⟩
                                case rest =>
                                  have hbl_ := Nbl2.out
                                  subst hbl_
                                  clear HC27
                                  try clear c2
                                  try clear p2
                                  try clear c3
                                  try clear c4
                                  try clear c5
                                  try clear c6
                                  try clear p6
                                  try clear c7
                                  try clear c8
                                  try clear c28
                                  try clear c28b0
                                  try clear c28b1
                                  try clear c29
                                  try clear c29b0
                                  try clear c29b1
                                  try clear c30
                                  try clear c30b0
                                  try clear c30b1
                                  try clear c31
                                  try clear c31b0
                                  try clear c32
                                  try clear c32b0
                                  try clear c32b1
                                  try clear c33
                                  try clear c33b0
                                  try clear c33b1
                                  try clear c34
                                  try clear c34b0
                                  try clear c34b1
                                  try clear c34b2
                                  try clear c35
                                  try clear c35b0
                                  try clear c37
                                  try clear c37b0
                                  try clear c37b1
                                  try clear c40
                                  try clear c40b0
                                  try clear c40b1
                                  try clear c45
                                  try clear c45b0
                                  try clear c45b1
                                  try clear c46
                                  try clear c46b0
                                  try clear c46b1
                                  try clear c46b2
                                  try clear c47
                                  try clear c47b0
                                  try clear c49
                                  try clear c49b0
                                  try clear c49b1
                                  try clear c52
                                  try clear c52b0
                                  try clear c52b1
                                  try clear c57
                                  try clear c57b0
                                  try clear c57b1
                                  try clear c59
                                  try clear c59b0
                                  try clear c60
                                  try clear c60b0
                                  try clear c60b1
                                  try clear c61
                                  try clear c61b0
                                  try clear c61b1
                                  try clear c62
                                  try clear c62b0
                                  try clear c62b1
                                  try clear c62b2
                                  try clear c63
                                  try clear c63b0
                                  try clear p64
                                  try clear c65
                                  try clear c65b0
                                  try clear c65b1
                                  try clear c68
                                  try clear c68b0
                                  try clear c68b1
                                  try clear c73
                                  try clear c73b0
                                  try clear c73b1
                                  try clear c74
                                  try clear c74b0
                                  try clear c74b1
                                  try clear c74b2
                                  try clear c75
                                  try clear c75b0
                                  try clear c77
                                  try clear c77b0
                                  try clear c77b1
                                  try clear c80
                                  try clear c80b0
                                  try clear c80b1
                                  try clear hcz36_0
                                  try clear hcz36_1
                                  try clear hcz36_2
                                  try clear hcz36_3
                                  try clear hcz38_0
                                  try clear hcz38_1
                                  try clear hcz38_2
                                  try clear hcz38_3
                                  try clear hcz39_0
                                  try clear hcz39_1
                                  try clear hcz39_2
                                  try clear hcz39_3
                                  try clear hcz41_0
                                  try clear hcz41_1
                                  try clear hcz41_2
                                  try clear hcz41_3
                                  try clear hcz42_0
                                  try clear hcz42_1
                                  try clear hcz42_2
                                  try clear hcz42_3
                                  try clear hcz43_0
                                  try clear hcz43_1
                                  try clear hcz43_2
                                  try clear hcz43_3
                                  try clear hcz44_0
                                  try clear hcz44_1
                                  try clear hcz44_2
                                  try clear hcz44_3
                                  try clear hcz48_0
                                  try clear hcz48_1
                                  try clear hcz48_2
                                  try clear hcz48_3
                                  try clear hcz50_0
                                  try clear hcz50_1
                                  try clear hcz50_2
                                  try clear hcz50_3
                                  try clear hcz51_0
                                  try clear hcz51_1
                                  try clear hcz51_2
                                  try clear hcz51_3
                                  try clear hcz53_0
                                  try clear hcz53_1
                                  try clear hcz53_2
                                  try clear hcz53_3
                                  try clear hcz54_0
                                  try clear hcz54_1
                                  try clear hcz54_2
                                  try clear hcz54_3
                                  try clear hcz55_0
                                  try clear hcz55_1
                                  try clear hcz55_2
                                  try clear hcz55_3
                                  try clear hcz56_0
                                  try clear hcz56_1
                                  try clear hcz56_2
                                  try clear hcz56_3
                                  try clear hcz58_0
                                  try clear hcz58_1
                                  try clear hcz58_2
                                  try clear hcz58_3
                                  try clear hcz64_0
                                  try clear hcz64_1
                                  try clear hcz64_2
                                  try clear hcz64_3
                                  try clear hcz66_0
                                  try clear hcz66_1
                                  try clear hcz66_2
                                  try clear hcz66_3
                                  try clear hcz67_0
                                  try clear hcz67_1
                                  try clear hcz67_2
                                  try clear hcz67_3
                                  try clear hcz69_0
                                  try clear hcz69_1
                                  try clear hcz69_2
                                  try clear hcz69_3
                                  try clear hcz70_0
                                  try clear hcz70_1
                                  try clear hcz70_2
                                  try clear hcz70_3
                                  try clear hcz71_0
                                  try clear hcz71_1
                                  try clear hcz71_2
                                  try clear hcz71_3
                                  try clear hcz72_0
                                  try clear hcz72_1
                                  try clear hcz72_2
                                  try clear hcz72_3
                                  try clear hcz76_0
                                  try clear hcz76_1
                                  try clear hcz76_2
                                  try clear hcz76_3
                                  try clear hcz78_0
                                  try clear hcz78_1
                                  try clear hcz78_2
                                  try clear hcz78_3
                                  try clear hcz79_0
                                  try clear hcz79_1
                                  try clear hcz79_2
                                  try clear hcz79_3
                                  try clear hcz81_0
                                  try clear hcz81_1
                                  try clear hcz81_2
                                  try clear hcz81_3
                                  try clear hcz82_0
                                  try clear hcz82_1
                                  try clear hcz82_2
                                  try clear hcz82_3
                                  try clear hcz83_0
                                  try clear hcz83_1
                                  try clear hcz83_2
                                  try clear hcz83_3
                                  try clear hcz84_0
                                  try clear hcz84_1
                                  try clear hcz84_2
                                  try clear hcz84_3
                                  try clear hfz36_0
                                  try clear hfz36_1
                                  try clear hfz36_2
                                  try clear hfz36_3
                                  try clear hfz38_0
                                  try clear hfz38_1
                                  try clear hfz38_2
                                  try clear hfz38_3
                                  try clear hfz39_0
                                  try clear hfz39_1
                                  try clear hfz39_2
                                  try clear hfz39_3
                                  try clear hfz41_0
                                  try clear hfz41_1
                                  try clear hfz41_2
                                  try clear hfz41_3
                                  try clear hfz42_0
                                  try clear hfz42_1
                                  try clear hfz42_2
                                  try clear hfz42_3
                                  try clear hfz43_0
                                  try clear hfz43_1
                                  try clear hfz43_2
                                  try clear hfz43_3
                                  try clear hfz44_0
                                  try clear hfz44_1
                                  try clear hfz44_2
                                  try clear hfz44_3
                                  try clear hfz48_0
                                  try clear hfz48_1
                                  try clear hfz48_2
                                  try clear hfz48_3
                                  try clear hfz50_0
                                  try clear hfz50_1
                                  try clear hfz50_2
                                  try clear hfz50_3
                                  try clear hfz51_0
                                  try clear hfz51_1
                                  try clear hfz51_2
                                  try clear hfz51_3
                                  try clear hfz53_0
                                  try clear hfz53_1
                                  try clear hfz53_2
                                  try clear hfz53_3
                                  try clear hfz54_0
                                  try clear hfz54_1
                                  try clear hfz54_2
                                  try clear hfz54_3
                                  try clear hfz55_0
                                  try clear hfz55_1
                                  try clear hfz55_2
                                  try clear hfz55_3
                                  try clear hfz56_0
                                  try clear hfz56_1
                                  try clear hfz56_2
                                  try clear hfz56_3
                                  try clear hfz58_0
                                  try clear hfz58_1
                                  try clear hfz58_2
                                  try clear hfz58_3
                                  try clear hfz64_0
                                  try clear hfz64_1
                                  try clear hfz64_2
                                  try clear hfz64_3
                                  try clear hfz66_0
                                  try clear hfz66_1
                                  try clear hfz66_2
                                  try clear hfz66_3
                                  try clear hfz67_0
                                  try clear hfz67_1
                                  try clear hfz67_2
                                  try clear hfz67_3
                                  try clear hfz69_0
                                  try clear hfz69_1
                                  try clear hfz69_2
                                  try clear hfz69_3
                                  try clear hfz70_0
                                  try clear hfz70_1
                                  try clear hfz70_2
                                  try clear hfz70_3
                                  try clear hfz71_0
                                  try clear hfz71_1
                                  try clear hfz71_2
                                  try clear hfz71_3
                                  try clear hfz72_0
                                  try clear hfz72_1
                                  try clear hfz72_2
                                  try clear hfz72_3
                                  try clear hfz76_0
                                  try clear hfz76_1
                                  try clear hfz76_2
                                  try clear hfz76_3
                                  try clear hfz78_0
                                  try clear hfz78_1
                                  try clear hfz78_2
                                  try clear hfz78_3
                                  try clear hfz79_0
                                  try clear hfz79_1
                                  try clear hfz79_2
                                  try clear hfz79_3
                                  try clear hfz81_0
                                  try clear hfz81_1
                                  try clear hfz81_2
                                  try clear hfz81_3
                                  try clear hfz82_0
                                  try clear hfz82_1
                                  try clear hfz82_2
                                  try clear hfz82_3
                                  try clear hfz83_0
                                  try clear hfz83_1
                                  try clear hfz83_2
                                  try clear hfz83_3
                                  try clear hfz84_0
                                  try clear hfz84_1
                                  try clear hfz84_2
                                  try clear hfz84_3
                                  obtain ⟨kq, x128_26, rfl, HA, HJ26, HO_9, HO_52, BK190, HB⟩ := hcut
                                  cases kq with
                                  | zero => exact absurd HA.out (by simp [bywashlaw11_BlockParts.j5])
                                  | succ kj26 =>
                                    have H := HA.out
                                    clear HA
                                    simp only [bywashlaw11_BlockParts.j5] at H
                                    by_cases c85 : x128_26 = true
                                    · subst c85
                                      have H1 : (some false) = some r := by rw [if_pos rfl] at H; exact H
                                      clear H
                                      have H := H1
                                      clear H1
                                      obtain rfl := Option.some.inj H
                                      go_wp2
                                      go_ret
                                      exact ⟨by first | rfl | (simp [errW_none, errW_some] <;> rfl) | (simp [*, errW_none, errW_some] <;> rfl), by repeat (first | (with_reducible first | exact HB.out | apply below_alloc | apply pw_below_drewN | apply below_drew1 | refine below_set ?_ GE190.out) | exact HB.out)⟩
                                    · replace c85 := Bool.eq_false_iff.mpr c85
                                      subst c85
                                      have H1 : (bywashlaw11_BlockParts.l0 kj26 a0 a1 a2 a3 t185 t185 (t185.length : Int) (wrap64 (x54_2 + 1))) = some r := by rw [if_neg (show ¬ (false = true) by decide)] at H; exact H
                                      clear H
                                      have H := H1
                                      clear H1
                                      have H' := Aside0.mk H
                                      clear H
                                      go_wp2
                                      go_roundg kj26
                                      case measure => have := HJ4.out; have := HK2.out; have := HJ18.out; have := HJ22.out; have := HJ24.out; have := HJ26.out; omega
                                      case rel => exact ⟨(wrap64 (x54_2 + 1)), (by first | rfl | (simp; done) | (simp [*]; done)), H', ⟨by have := HJ4.out; have := HK2.out; have := HJ18.out; have := HJ22.out; have := HJ24.out; have := HJ26.out; omega⟩, ⟨by (with_reducible repeat (first | apply Kd.R_alloc | apply Kd.R_drewN | apply Kd.R_drew)); exact Kd.R_mono HO_9.out (fun _ hk => trivial)⟩, ⟨by (with_reducible repeat (first | apply Kd.R_alloc | apply Kd.R_drewN | apply Kd.R_drew)); exact Kd.R_mono HO_52.out (fun _ hk => trivial)⟩, ⟨by repeat (first | (with_reducible first | exact HB.out | apply below_alloc | apply pw_below_drewN | apply below_drew1 | refine below_set ?_ GE190.out) | exact HB.out)⟩⟩
                  · rw [if_neg c18] at H
                    exact absurd H (by simp)
                · rw [if_neg c17] at H
                  exact absurd H (by simp)
              · rw [if_neg c16] at H
                have c16b0 : decide (x54_2 < (t185.length : Int)) = false := decide_eq_false c16
                clear c16
                by_cases c86 : a3 = 0
                · rw [if_pos c86] at H
                  exact absurd H (by simp)
                · rw [if_neg c86] at H
                  have c86b0 : (a3 == 0) = false := beq_eq_false_iff_ne.mpr c86
                  have c86b1 : (a3 != 0) = true := bne_iff_ne.mpr c86
                  obtain ⟨ji87, hji87⟩ : ∃ j_ : Int, (mx (wrap64 (Int.tdiv (wrap64 ((wrap64 ((a1.size : Int) + a3)) - 1)) a3)) 1) = j_ := ⟨_, rfl⟩
                  replace H : (some ((t185.length : Int) == (ji87))) = some r := by first | (rw [hji87] at H; exact H) | (simp only [hji87] at H ⊢; exact H)
                  have hji87_ : (if (wrap64 (Int.tdiv (wrap64 ((wrap64 ((a1.size : Int) + a3)) - 1)) a3)) < 1 then 1 else (wrap64 (Int.tdiv (wrap64 ((wrap64 ((a1.size : Int) + a3)) - 1)) a3))) = ji87 := hji87
                  obtain rfl := Option.some.inj H
                  go_wp2
                  go_ret
                  exact ⟨by first | rfl | (simp [errW_none, errW_some] <;> rfl) | (simp only [← hji87]; first | rfl | (simp [errW_none, errW_some] <;> rfl)) | (simp [*, errW_none, errW_some] <;> rfl), by repeat (first | (with_reducible first | exact HB.out | apply below_alloc | apply pw_below_drewN | apply below_drew1) | exact HB.out)⟩
        · replace c13 := Bool.eq_false_iff.mpr c13
          subst c13
          have H1 : (if (t185.length : Int) = 0 then (if a0 < 1 then (some true) else (if a0 > 2147483647 then (some true) else (if a3 < 64 then (some true) else (some (decide (a3 > 512)))))) else (some false)) = some r := by rw [if_neg (show ¬ (false = true) by decide)] at H; exact H
          clear H
          have H := H1
          clear H1
          by_cases c88 : (t185.length : Int) = 0
          · rw [if_pos c88] at H
            have c88b0 : ((t185.length : Int) == 0) = true := beq_iff_eq.mpr c88
            have c88b1 : ((t185.length : Int) != 0) = false := bne_eq_false_iff_eq.mpr c88
            clear c88
            by_cases c89 : a0 < 1
            · rw [if_pos c89] at H
              have c89b0 : decide (a0 < 1) = true := decide_eq_true c89
              clear c89
              obtain rfl := Option.some.inj H
              go_wp2_with (first | ((with_reducible refine gate_callee (f := 11) rfl ?_); refine goesL_ (some 28) rfl rfl Try.func11 (by kernel_rfl) rfl #[.int .i64 a0, .string a1, .bool a2, .int .i64 a3] rfl (by (try simp only [List.map_toArray, List.map_cons, List.map_nil]); first | done | rfl | (simp only [List.length_drop, List.length_take]; rfl)) ?_; (with_reducible refine (block_Cut.calls kj4 a0 a1 a2 a3 t185 false _ A12.out).mono ?_); rintro e w90 ⟨v187, rfl, ho0, hb⟩; refine ⟨_, rfl, ?_⟩; have n0_ := Aside0.mk (Kd.R_lower ho0 (below_size (by repeat (first | (with_reducible first | exact HB.out | apply below_alloc | apply pw_below_drewN | apply below_drew1) | exact HB.out)))); have n1_ := Aside0.mk (below_step (by repeat (first | (with_reducible first | exact HB.out | apply below_alloc | apply pw_below_drewN | apply below_drew1) | exact HB.out)) hb); clear HB; have HO188 := n0_; have HB := n1_; clear n0_ n1_; (try clear hb); (try clear hb2); (try clear hk); (try clear hi); (try clear ho0); obtain ⟨Ao91, co91, eo91⟩ := Kd.R_slice HO188.out; subst eo91))
              go_ret
              exact ⟨by first | rfl | (simp [errW_none, errW_some] <;> rfl) | (simp [*, errW_none, errW_some] <;> rfl), by repeat (first | (with_reducible first | exact HB.out | apply below_alloc | apply pw_below_drewN | apply below_drew1) | exact HB.out)⟩
            · rw [if_neg c89] at H
              have c89b0 : decide (a0 < 1) = false := decide_eq_false c89
              clear c89
              by_cases c92 : a0 > 2147483647
              · rw [if_pos c92] at H
                have c92b0 : decide (2147483647 < a0) = true := decide_eq_true c92
                clear c92
                obtain rfl := Option.some.inj H
                go_wp2_with (first | ((with_reducible refine gate_callee (f := 11) rfl ?_); refine goesL_ (some 28) rfl rfl Try.func11 (by kernel_rfl) rfl #[.int .i64 a0, .string a1, .bool a2, .int .i64 a3] rfl (by (try simp only [List.map_toArray, List.map_cons, List.map_nil]); first | done | rfl | (simp only [List.length_drop, List.length_take]; rfl)) ?_; (with_reducible refine (block_Cut.calls kj4 a0 a1 a2 a3 t185 false _ A12.out).mono ?_); rintro e w93 ⟨v187, rfl, ho0, hb⟩; refine ⟨_, rfl, ?_⟩; have n0_ := Aside0.mk (Kd.R_lower ho0 (below_size (by repeat (first | (with_reducible first | exact HB.out | apply below_alloc | apply pw_below_drewN | apply below_drew1) | exact HB.out)))); have n1_ := Aside0.mk (below_step (by repeat (first | (with_reducible first | exact HB.out | apply below_alloc | apply pw_below_drewN | apply below_drew1) | exact HB.out)) hb); clear HB; have HO188 := n0_; have HB := n1_; clear n0_ n1_; (try clear hb); (try clear hb2); (try clear hk); (try clear hi); (try clear ho0); obtain ⟨Ao94, co94, eo94⟩ := Kd.R_slice HO188.out; subst eo94))
                go_ret
                exact ⟨by first | rfl | (simp [errW_none, errW_some] <;> rfl) | (simp [*, errW_none, errW_some] <;> rfl), by repeat (first | (with_reducible first | exact HB.out | apply below_alloc | apply pw_below_drewN | apply below_drew1) | exact HB.out)⟩
              · rw [if_neg c92] at H
                have c92b0 : decide (2147483647 < a0) = false := decide_eq_false c92
                clear c92
                by_cases c95 : a3 < 64
                · rw [if_pos c95] at H
                  have c95b0 : decide (a3 < 64) = true := decide_eq_true c95
                  clear c95
                  obtain rfl := Option.some.inj H
                  go_wp2_with (first | ((with_reducible refine gate_callee (f := 11) rfl ?_); refine goesL_ (some 28) rfl rfl Try.func11 (by kernel_rfl) rfl #[.int .i64 a0, .string a1, .bool a2, .int .i64 a3] rfl (by (try simp only [List.map_toArray, List.map_cons, List.map_nil]); first | done | rfl | (simp only [List.length_drop, List.length_take]; rfl)) ?_; (with_reducible refine (block_Cut.calls kj4 a0 a1 a2 a3 t185 false _ A12.out).mono ?_); rintro e w96 ⟨v187, rfl, ho0, hb⟩; refine ⟨_, rfl, ?_⟩; have n0_ := Aside0.mk (Kd.R_lower ho0 (below_size (by repeat (first | (with_reducible first | exact HB.out | apply below_alloc | apply pw_below_drewN | apply below_drew1) | exact HB.out)))); have n1_ := Aside0.mk (below_step (by repeat (first | (with_reducible first | exact HB.out | apply below_alloc | apply pw_below_drewN | apply below_drew1) | exact HB.out)) hb); clear HB; have HO188 := n0_; have HB := n1_; clear n0_ n1_; (try clear hb); (try clear hb2); (try clear hk); (try clear hi); (try clear ho0); obtain ⟨Ao97, co97, eo97⟩ := Kd.R_slice HO188.out; subst eo97))
                  go_ret
                  exact ⟨by first | rfl | (simp [errW_none, errW_some] <;> rfl) | (simp [*, errW_none, errW_some] <;> rfl), by repeat (first | (with_reducible first | exact HB.out | apply below_alloc | apply pw_below_drewN | apply below_drew1) | exact HB.out)⟩
                · rw [if_neg c95] at H
                  have c95b0 : decide (a3 < 64) = false := decide_eq_false c95
                  clear c95
                  obtain rfl := Option.some.inj H
                  go_wp2_with (first | ((with_reducible refine gate_callee (f := 11) rfl ?_); refine goesL_ (some 28) rfl rfl Try.func11 (by kernel_rfl) rfl #[.int .i64 a0, .string a1, .bool a2, .int .i64 a3] rfl (by (try simp only [List.map_toArray, List.map_cons, List.map_nil]); first | done | rfl | (simp only [List.length_drop, List.length_take]; rfl)) ?_; (with_reducible refine (block_Cut.calls kj4 a0 a1 a2 a3 t185 false _ A12.out).mono ?_); rintro e w98 ⟨v187, rfl, ho0, hb⟩; refine ⟨_, rfl, ?_⟩; have n0_ := Aside0.mk (Kd.R_lower ho0 (below_size (by repeat (first | (with_reducible first | exact HB.out | apply below_alloc | apply pw_below_drewN | apply below_drew1) | exact HB.out)))); have n1_ := Aside0.mk (below_step (by repeat (first | (with_reducible first | exact HB.out | apply below_alloc | apply pw_below_drewN | apply below_drew1) | exact HB.out)) hb); clear HB; have HO188 := n0_; have HB := n1_; clear n0_ n1_; (try clear hb); (try clear hb2); (try clear hk); (try clear hi); (try clear ho0); obtain ⟨Ao99, co99, eo99⟩ := Kd.R_slice HO188.out; subst eo99))
                  go_ret
                  exact ⟨by first | rfl | (simp [errW_none, errW_some] <;> rfl) | (simp [*, errW_none, errW_some] <;> rfl), by repeat (first | (with_reducible first | exact HB.out | apply below_alloc | apply pw_below_drewN | apply below_drew1) | exact HB.out)⟩
          · rw [if_neg c88] at H
            have c88b0 : ((t185.length : Int) == 0) = false := beq_eq_false_iff_ne.mpr c88
            have c88b1 : ((t185.length : Int) != 0) = true := bne_iff_ne.mpr c88
            have c88b2 : ¬ (t185 = []) := fun h_ => c88 (by rw [h_]; rfl)
            obtain rfl := Option.some.inj H
            go_wp2_with (first | ((with_reducible refine gate_callee (f := 11) rfl ?_); refine goesL_ (some 28) rfl rfl Try.func11 (by kernel_rfl) rfl #[.int .i64 a0, .string a1, .bool a2, .int .i64 a3] rfl (by (try simp only [List.map_toArray, List.map_cons, List.map_nil]); first | done | rfl | (simp only [List.length_drop, List.length_take]; rfl)) ?_; (with_reducible refine (block_Cut.calls kj4 a0 a1 a2 a3 t185 false _ A12.out).mono ?_); rintro e w100 ⟨v187, rfl, ho0, hb⟩; refine ⟨_, rfl, ?_⟩; have n0_ := Aside0.mk (Kd.R_lower ho0 (below_size (by repeat (first | (with_reducible first | exact HB.out | apply below_alloc | apply pw_below_drewN | apply below_drew1) | exact HB.out)))); have n1_ := Aside0.mk (below_step (by repeat (first | (with_reducible first | exact HB.out | apply below_alloc | apply pw_below_drewN | apply below_drew1) | exact HB.out)) hb); clear HB; have HO188 := n0_; have HB := n1_; clear n0_ n1_; (try clear hb); (try clear hb2); (try clear hk); (try clear hi); (try clear ho0); obtain ⟨Ao101, co101, eo101⟩ := Kd.R_slice HO188.out; subst eo101))
            go_ret
            exact ⟨by first | rfl | (simp [errW_none, errW_some] <;> rfl) | (simp [*, errW_none, errW_some] <;> rfl), by repeat (first | (with_reducible first | exact HB.out | apply below_alloc | apply pw_below_drewN | apply below_drew1) | exact HB.out)⟩

/-- THE ONE PURE STATEMENT of bywashlaw11_BlockParts: yours. -/
def bywashlaw11_BlockParts.Pure : Prop := ∀ (a0 : Int) (a1 : ByteArray) (a2 : Bool) (a3 : Int), (Lit.int .i64 a0).wf = true → a1.size ≤ 140737488351232 → (Lit.int .i64 a3).wf = true → ∃ k, bywashlaw11_BlockParts.f k a0 a1 a2 a3 = some true
theorem bywashlaw11_BlockParts.walk (P : bywashlaw11_BlockParts.Pure) (a0 : Int) (a1 : ByteArray) (a2 : Bool) (a3 : Int) (w : World) (w0 : (Lit.int .i64 a0).wf = true) (w1 : a1.size ≤ 140737488351232) (w3 : (Lit.int .i64 a3).wf = true) :
    Calls Try.prog 5 #[.int .i64 a0, .string a1, .bool a2, .int .i64 a3] w fun e w' => e = .returned (.bool true) ∧ Below w.heap.size w w' := by
  obtain ⟨k, h⟩ := P a0 a1 a2 a3 w0 w1 w3
  refine (bywashlaw11_BlockParts.calls k a0 a1 a2 a3 true w h).mono ?_
  rintro e w' ⟨rfl, hd⟩
  exact ⟨rfl, hd⟩

end Go.Proofs.Ytdonanibfifodaa.PBlockParts
