-- Written by a program of this session (the kit's printer, turned): the functions that the law reaches.
import Derived.Test.YtdonanibfifodaaPBlockBetweenx0
import Derived.Test.YtdonanibfifodaaPBlockBetweenx1
import Derived.Test.YtdonanibfifodaaPBlockBetweenx4
import Derived.Test.YtdonanibfifodaaPBlockBetweenx6
namespace Go.Proofs.Ytdonanibfifodaa.PBlockBetween
open Go.RowKit Go.Proofs.YtdonanibfifodaaW.PrintWords Go.Proofs.YtdonanibfifodaaW.PrintLast Go.Proofs.YtdonanibfifodaaW.PrintMore
attribute [local go_sem] max2_int min2_int max_two min_two max_three min_three max_four min_four   -- for this text's walks alone
set_option linter.unusedVariables false
set_option linter.unusedSimpArgs false

/-! ### bywashlaw11_BlockBetween: function 6 -/
mutual
def bywashlaw11_BlockBetween.j0 : Nat → ByteArray → Int → Bool → Int → Int → Int → ByteArray → Option (Bool)
 | 0, _, _, _, _, _, _, _ => none
 | k + 1, x0, x2, x42, x191000, x191001, x191002, x191003 => if x42 = true then ((bywashlaw11_alive.f k).bind fun t192 => (some t192)) else ((block_Cut.f k 1 x0 false 64).bind fun bt193 => ((block_New.f 1000).bind fun bt197 => (if bt193.2 = true then (if (bt193.1.length : Int) < 2 then (bywashlaw11_BlockBetween.j1 k x2 bt193.1 bt193.2 true x191000 x191001 x191002 x191003 bt197.1 bt197.2.1 bt197.2.2.1 bt197.2.2.2) else (if x191000 = 9 then (bywashlaw11_BlockBetween.j1 k x2 bt193.1 bt193.2 (x191002 == 1) x191000 x191001 x191002 x191003 bt197.1 bt197.2.1 bt197.2.2.1 bt197.2.2.2) else (bywashlaw11_BlockBetween.j1 k x2 bt193.1 bt193.2 false x191000 x191001 x191002 x191003 bt197.1 bt197.2.1 bt197.2.2.1 bt197.2.2.2))) else (bywashlaw11_BlockBetween.j1 k x2 bt193.1 bt193.2 true x191000 x191001 x191002 x191003 bt197.1 bt197.2.1 bt197.2.2.1 bt197.2.2.2))))
def bywashlaw11_BlockBetween.j1 : Nat → Int → List (S39) → Bool → Bool → Int → Int → Int → ByteArray → Int → Int → ByteArray → Bool → Option (Bool)
 | 0, _, _, _, _, _, _, _, _, _, _, _, _ => none
 | k + 1, x2, x7, x8, x70, x191000, x191001, x191002, x191003, x202000, x202001, x202002, x202003 => if x70 = true then (if x8 = true then (some (decide ((x7.length : Int) ≥ 2))) else (some false)) else (if (wrap64 ((x7.length : Int) - 1)) = 0 then (none) else (if 0 ≤ (wrap64 (1 + (Int.tmod (wrap64 ((wrap64 ((Int.tmod x2 (wrap64 ((x7.length : Int) - 1))) + (x7.length : Int))) - 1)) (wrap64 ((x7.length : Int) - 1))))) then (if (wrap64 (1 + (Int.tmod (wrap64 ((wrap64 ((Int.tmod x2 (wrap64 ((x7.length : Int) - 1))) + (x7.length : Int))) - 1)) (wrap64 ((x7.length : Int) - 1))))) ≤ (x7.length : Int) then ((some (x7.take ((wrap64 (1 + (Int.tmod (wrap64 ((wrap64 ((Int.tmod x2 (wrap64 ((x7.length : Int) - 1))) + (x7.length : Int))) - 1)) (wrap64 ((x7.length : Int) - 1))))) : Int).toNat : List (S39))).bind fun y202 => (bywashlaw11_BlockBetween.l0 k x7 (wrap64 (1 + (Int.tmod (wrap64 ((wrap64 ((Int.tmod x2 (wrap64 ((x7.length : Int) - 1))) + (x7.length : Int))) - 1)) (wrap64 ((x7.length : Int) - 1))))) y202 (y202.length : Int) 0 x191000 x191001 x191002 x191003 x202000 x202001 x202002 x202003)) else (none)) else (none)))
def bywashlaw11_BlockBetween.l0 : Nat → List (S39) → Int → List (S39) → Int → Int → Int → Int → Int → ByteArray → Int → Int → ByteArray → Bool → Option (Bool)
 | 0, _, _, _, _, _, _, _, _, _, _, _, _, _ => none
 | k + 1, x7, x10, x97, x98, x99, x191000, x191001, x191002, x191003, x202000, x202001, x202002, x202003 => if x99 < x98 then (if 0 ≤ x99 then (if x99 < (x97.length : Int) then ((block_Blocks_Take.f k x202000 x202001 x202002 x202003 ((rd_T39 x97 x99).f0) ((rd_T39 x97 x99).f1) ((rd_T39 x97 x99).f2) ((rd_T39 x97 x99).f3)).bind fun bt208 => (if bt208.2.2.2.1 = true then (bywashlaw11_BlockBetween.j3 k x7 x10 x97 x98 x99 true x191000 x191001 x191002 x191003 bt208.2.2.2.2.2.1 bt208.2.2.2.2.2.2.1 bt208.2.2.2.2.2.2.2.1 bt208.2.2.2.2.2.2.2.2) else (if bt208.2.2.2.2.1 = 0 then ((block_Blocks_Open.f bt208.2.2.2.2.2.1 bt208.2.2.2.2.2.2.1 bt208.2.2.2.2.2.2.2.1 bt208.2.2.2.2.2.2.2.2).bind fun bt218 => (bywashlaw11_BlockBetween.j3 k x7 x10 x97 x98 x99 (bt218.1 != 1) x191000 x191001 x191002 x191003 bt218.2.1 bt218.2.2.1 bt218.2.2.2.1 bt218.2.2.2.2)) else (bywashlaw11_BlockBetween.j3 k x7 x10 x97 x98 x99 true x191000 x191001 x191002 x191003 bt208.2.2.2.2.2.1 bt208.2.2.2.2.2.2.1 bt208.2.2.2.2.2.2.2.1 bt208.2.2.2.2.2.2.2.2)))) else (none)) else (none)) else ((block_Blocks_Take.f k x202000 x202001 x202002 x202003 x191000 x191001 x191002 x191003).bind fun bt223 => ((bywashref1_Check.f k x191000 x191001 x191002 x191003).bind fun bt233 => (if bt233.2 = 0 then (bywashlaw11_BlockBetween.j4 k x7 x10 bt223.2.2.2.1 bt223.2.2.2.2.1 11 bt223.2.2.2.2.2.1 bt223.2.2.2.2.2.2.1 bt223.2.2.2.2.2.2.2.1 bt223.2.2.2.2.2.2.2.2) else (bywashlaw11_BlockBetween.j4 k x7 x10 bt223.2.2.2.1 bt223.2.2.2.2.1 1 bt223.2.2.2.2.2.1 bt223.2.2.2.2.2.2.1 bt223.2.2.2.2.2.2.2.1 bt223.2.2.2.2.2.2.2.2))))
def bywashlaw11_BlockBetween.j3 : Nat → List (S39) → Int → List (S39) → Int → Int → Bool → Int → Int → Int → ByteArray → Int → Int → ByteArray → Bool → Option (Bool)
 | 0, _, _, _, _, _, _, _, _, _, _, _, _, _, _ => none
 | k + 1, x7, x10, x97, x98, x99, x119, x191000, x191001, x191002, x191003, x202000, x202001, x202002, x202003 => if x119 = true then (some false) else (bywashlaw11_BlockBetween.l0 k x7 x10 x97 x98 (wrap64 (x99 + 1)) x191000 x191001 x191002 x191003 x202000 x202001 x202002 x202003)
def bywashlaw11_BlockBetween.j4 : Nat → List (S39) → Int → Bool → Int → Int → Int → Int → ByteArray → Bool → Option (Bool)
 | 0, _, _, _, _, _, _, _, _, _ => none
 | k + 1, x7, x10, x17, x18, x21, x202000, x202001, x202002, x202003 => if 0 ≤ x10 then (if x10 < (x7.length : Int) then ((block_Blocks_Take.f k x202000 x202001 x202002 x202003 ((rd_T39 x7 x10).f0) ((rd_T39 x7 x10).f1) ((rd_T39 x7 x10).f2) ((rd_T39 x7 x10).f3)).bind fun bt236 => (if x17 = true then (some false) else (if x18 = x21 then (if bt236.2.2.2.1 = true then (some false) else (if bt236.2.2.2.2.1 = 11 then ((block_Blocks_Open.f bt236.2.2.2.2.2.1 bt236.2.2.2.2.2.2.1 bt236.2.2.2.2.2.2.2.1 bt236.2.2.2.2.2.2.2.2).bind fun bt246 => (some (bt246.1 == 0))) else (some false))) else (some false)))) else (none)) else (none)
end
def bywashlaw11_BlockBetween.f (k : Nat) (a0 : ByteArray) (a1_0 : Int) (a1_1 : Int) (a1_2 : Int) (a1_3 : ByteArray) (a2 : Int) : Option (Bool) := if (a0.size : Int) < 65 then (bywashlaw11_BlockBetween.j0 k a0 a2 true a1_0 a1_1 a1_2 a1_3) else (if (a0.size : Int) > 600 then (bywashlaw11_BlockBetween.j0 k a0 a2 true a1_0 a1_1 a1_2 a1_3) else (if (a1_3.size : Int) > 600 then (bywashlaw11_BlockBetween.j0 k a0 a2 true a1_0 a1_1 a1_2 a1_3) else ((bywashlaw11_alive.f k).bind fun t191 => (bywashlaw11_BlockBetween.j0 k a0 a2 (!t191) a1_0 a1_1 a1_2 a1_3))))
theorem bywashlaw11_BlockBetween.mono_l : ∀ k, (∀ y0 y1 y2 y3 y4 y5 y6, LeO (bywashlaw11_BlockBetween.j0 k y0 y1 y2 y3 y4 y5 y6) (bywashlaw11_BlockBetween.j0 (k + 1) y0 y1 y2 y3 y4 y5 y6)) ∧ (∀ y0 y1 y2 y3 y4 y5 y6 y7 y8 y9 y10 y11, LeO (bywashlaw11_BlockBetween.j1 k y0 y1 y2 y3 y4 y5 y6 y7 y8 y9 y10 y11) (bywashlaw11_BlockBetween.j1 (k + 1) y0 y1 y2 y3 y4 y5 y6 y7 y8 y9 y10 y11)) ∧ (∀ y0 y1 y2 y3 y4 y5 y6 y7 y8 y9 y10 y11 y12, LeO (bywashlaw11_BlockBetween.l0 k y0 y1 y2 y3 y4 y5 y6 y7 y8 y9 y10 y11 y12) (bywashlaw11_BlockBetween.l0 (k + 1) y0 y1 y2 y3 y4 y5 y6 y7 y8 y9 y10 y11 y12)) ∧ (∀ y0 y1 y2 y3 y4 y5 y6 y7 y8 y9 y10 y11 y12 y13, LeO (bywashlaw11_BlockBetween.j3 k y0 y1 y2 y3 y4 y5 y6 y7 y8 y9 y10 y11 y12 y13) (bywashlaw11_BlockBetween.j3 (k + 1) y0 y1 y2 y3 y4 y5 y6 y7 y8 y9 y10 y11 y12 y13)) ∧ (∀ y0 y1 y2 y3 y4 y5 y6 y7 y8, LeO (bywashlaw11_BlockBetween.j4 k y0 y1 y2 y3 y4 y5 y6 y7 y8) (bywashlaw11_BlockBetween.j4 (k + 1) y0 y1 y2 y3 y4 y5 y6 y7 y8))
 | 0 => ⟨fun _ _ _ _ _ _ _ r h => by simp [bywashlaw11_BlockBetween.j0] at h, fun _ _ _ _ _ _ _ _ _ _ _ _ r h => by simp [bywashlaw11_BlockBetween.j1] at h, fun _ _ _ _ _ _ _ _ _ _ _ _ _ r h => by simp [bywashlaw11_BlockBetween.l0] at h, fun _ _ _ _ _ _ _ _ _ _ _ _ _ _ r h => by simp [bywashlaw11_BlockBetween.j3] at h, fun _ _ _ _ _ _ _ _ _ r h => by simp [bywashlaw11_BlockBetween.j4] at h⟩
 | k + 1 => by
  obtain ⟨ih0, ih1, ih2, ih3, ih4⟩ := bywashlaw11_BlockBetween.mono_l k
  refine ⟨?_, ?_, ?_, ?_, ?_⟩
  ·intro y0 y1 y2 y3 y4 y5 y6
   unfold bywashlaw11_BlockBetween.j0
   repeat' first
   | (with_reducible exact ih0 _ _ _ _ _ _ _)
   | (with_reducible exact ih1 _ _ _ _ _ _ _ _ _ _ _ _)
   | (with_reducible exact ih2 _ _ _ _ _ _ _ _ _ _ _ _ _)
   | (with_reducible exact ih3 _ _ _ _ _ _ _ _ _ _ _ _ _ _)
   | (with_reducible exact ih4 _ _ _ _ _ _ _ _ _)
   | (with_reducible exact block_Blocks_Take.mono _ _ _ _ _ _ _ _ _)
   | (with_reducible exact block_Cut.mono _ _ _ _ _)
   | (with_reducible exact bywashlaw11_alive.mono _)
   | (with_reducible exact bywashref1_Check.mono _ _ _ _ _)
   | (with_reducible exact LeO.refl _)
   | (with_reducible exact LeO.none _)
   | (with_reducible refine LeO.ite ?_ ?_)
   | (with_reducible refine LeO.bind ?_ (fun _ => ?_))
   | exact ih0 _ _ _ _ _ _ _
   | exact ih1 _ _ _ _ _ _ _ _ _ _ _ _
   | exact ih2 _ _ _ _ _ _ _ _ _ _ _ _ _
   | exact ih3 _ _ _ _ _ _ _ _ _ _ _ _ _ _
   | exact ih4 _ _ _ _ _ _ _ _ _
   | exact block_Blocks_Take.mono _ _ _ _ _ _ _ _ _
   | exact block_Cut.mono _ _ _ _ _
   | exact bywashlaw11_alive.mono _
   | exact bywashref1_Check.mono _ _ _ _ _
   | exact LeO.none _
   | refine LeO.ite ?_ ?_
   | refine LeO.bind ?_ (fun _ => ?_)
  ·intro y0 y1 y2 y3 y4 y5 y6 y7 y8 y9 y10 y11
   unfold bywashlaw11_BlockBetween.j1
   repeat' first
   | (with_reducible exact ih0 _ _ _ _ _ _ _)
   | (with_reducible exact ih1 _ _ _ _ _ _ _ _ _ _ _ _)
   | (with_reducible exact ih2 _ _ _ _ _ _ _ _ _ _ _ _ _)
   | (with_reducible exact ih3 _ _ _ _ _ _ _ _ _ _ _ _ _ _)
   | (with_reducible exact ih4 _ _ _ _ _ _ _ _ _)
   | (with_reducible exact block_Blocks_Take.mono _ _ _ _ _ _ _ _ _)
   | (with_reducible exact block_Cut.mono _ _ _ _ _)
   | (with_reducible exact bywashlaw11_alive.mono _)
   | (with_reducible exact bywashref1_Check.mono _ _ _ _ _)
   | (with_reducible exact LeO.refl _)
   | (with_reducible exact LeO.none _)
   | (with_reducible refine LeO.ite ?_ ?_)
   | (with_reducible refine LeO.bind ?_ (fun _ => ?_))
   | exact ih0 _ _ _ _ _ _ _
   | exact ih1 _ _ _ _ _ _ _ _ _ _ _ _
   | exact ih2 _ _ _ _ _ _ _ _ _ _ _ _ _
   | exact ih3 _ _ _ _ _ _ _ _ _ _ _ _ _ _
   | exact ih4 _ _ _ _ _ _ _ _ _
   | exact block_Blocks_Take.mono _ _ _ _ _ _ _ _ _
   | exact block_Cut.mono _ _ _ _ _
   | exact bywashlaw11_alive.mono _
   | exact bywashref1_Check.mono _ _ _ _ _
   | exact LeO.none _
   | refine LeO.ite ?_ ?_
   | refine LeO.bind ?_ (fun _ => ?_)
  ·intro y0 y1 y2 y3 y4 y5 y6 y7 y8 y9 y10 y11 y12
   unfold bywashlaw11_BlockBetween.l0
   repeat' first
   | (with_reducible exact ih0 _ _ _ _ _ _ _)
   | (with_reducible exact ih1 _ _ _ _ _ _ _ _ _ _ _ _)
   | (with_reducible exact ih2 _ _ _ _ _ _ _ _ _ _ _ _ _)
   | (with_reducible exact ih3 _ _ _ _ _ _ _ _ _ _ _ _ _ _)
   | (with_reducible exact ih4 _ _ _ _ _ _ _ _ _)
   | (with_reducible exact block_Blocks_Take.mono _ _ _ _ _ _ _ _ _)
   | (with_reducible exact block_Cut.mono _ _ _ _ _)
   | (with_reducible exact bywashlaw11_alive.mono _)
   | (with_reducible exact bywashref1_Check.mono _ _ _ _ _)
   | (with_reducible exact LeO.refl _)
   | (with_reducible exact LeO.none _)
   | (with_reducible refine LeO.ite ?_ ?_)
   | (with_reducible refine LeO.bind ?_ (fun _ => ?_))
   | exact ih0 _ _ _ _ _ _ _
   | exact ih1 _ _ _ _ _ _ _ _ _ _ _ _
   | exact ih2 _ _ _ _ _ _ _ _ _ _ _ _ _
   | exact ih3 _ _ _ _ _ _ _ _ _ _ _ _ _ _
   | exact ih4 _ _ _ _ _ _ _ _ _
   | exact block_Blocks_Take.mono _ _ _ _ _ _ _ _ _
   | exact block_Cut.mono _ _ _ _ _
   | exact bywashlaw11_alive.mono _
   | exact bywashref1_Check.mono _ _ _ _ _
   | exact LeO.none _
   | refine LeO.ite ?_ ?_
   | refine LeO.bind ?_ (fun _ => ?_)
  ·intro y0 y1 y2 y3 y4 y5 y6 y7 y8 y9 y10 y11 y12 y13
   unfold bywashlaw11_BlockBetween.j3
   repeat' first
   | (with_reducible exact ih0 _ _ _ _ _ _ _)
   | (with_reducible exact ih1 _ _ _ _ _ _ _ _ _ _ _ _)
   | (with_reducible exact ih2 _ _ _ _ _ _ _ _ _ _ _ _ _)
   | (with_reducible exact ih3 _ _ _ _ _ _ _ _ _ _ _ _ _ _)
   | (with_reducible exact ih4 _ _ _ _ _ _ _ _ _)
   | (with_reducible exact block_Blocks_Take.mono _ _ _ _ _ _ _ _ _)
   | (with_reducible exact block_Cut.mono _ _ _ _ _)
   | (with_reducible exact bywashlaw11_alive.mono _)
   | (with_reducible exact bywashref1_Check.mono _ _ _ _ _)
   | (with_reducible exact LeO.refl _)
   | (with_reducible exact LeO.none _)
   | (with_reducible refine LeO.ite ?_ ?_)
   | (with_reducible refine LeO.bind ?_ (fun _ => ?_))
   | exact ih0 _ _ _ _ _ _ _
   | exact ih1 _ _ _ _ _ _ _ _ _ _ _ _
   | exact ih2 _ _ _ _ _ _ _ _ _ _ _ _ _
   | exact ih3 _ _ _ _ _ _ _ _ _ _ _ _ _ _
   | exact ih4 _ _ _ _ _ _ _ _ _
   | exact block_Blocks_Take.mono _ _ _ _ _ _ _ _ _
   | exact block_Cut.mono _ _ _ _ _
   | exact bywashlaw11_alive.mono _
   | exact bywashref1_Check.mono _ _ _ _ _
   | exact LeO.none _
   | refine LeO.ite ?_ ?_
   | refine LeO.bind ?_ (fun _ => ?_)
  ·intro y0 y1 y2 y3 y4 y5 y6 y7 y8
   unfold bywashlaw11_BlockBetween.j4
   repeat' first
   | (with_reducible exact ih0 _ _ _ _ _ _ _)
   | (with_reducible exact ih1 _ _ _ _ _ _ _ _ _ _ _ _)
   | (with_reducible exact ih2 _ _ _ _ _ _ _ _ _ _ _ _ _)
   | (with_reducible exact ih3 _ _ _ _ _ _ _ _ _ _ _ _ _ _)
   | (with_reducible exact ih4 _ _ _ _ _ _ _ _ _)
   | (with_reducible exact block_Blocks_Take.mono _ _ _ _ _ _ _ _ _)
   | (with_reducible exact block_Cut.mono _ _ _ _ _)
   | (with_reducible exact bywashlaw11_alive.mono _)
   | (with_reducible exact bywashref1_Check.mono _ _ _ _ _)
   | (with_reducible exact LeO.refl _)
   | (with_reducible exact LeO.none _)
   | (with_reducible refine LeO.ite ?_ ?_)
   | (with_reducible refine LeO.bind ?_ (fun _ => ?_))
   | exact ih0 _ _ _ _ _ _ _
   | exact ih1 _ _ _ _ _ _ _ _ _ _ _ _
   | exact ih2 _ _ _ _ _ _ _ _ _ _ _ _ _
   | exact ih3 _ _ _ _ _ _ _ _ _ _ _ _ _ _
   | exact ih4 _ _ _ _ _ _ _ _ _
   | exact block_Blocks_Take.mono _ _ _ _ _ _ _ _ _
   | exact block_Cut.mono _ _ _ _ _
   | exact bywashlaw11_alive.mono _
   | exact bywashref1_Check.mono _ _ _ _ _
   | exact LeO.none _
   | refine LeO.ite ?_ ?_
   | refine LeO.bind ?_ (fun _ => ?_)
theorem bywashlaw11_BlockBetween.mono : ∀ a0 a1 a2 a3 a4 a5 k, LeO (bywashlaw11_BlockBetween.f k a0 a1 a2 a3 a4 a5) (bywashlaw11_BlockBetween.f (k + 1) a0 a1 a2 a3 a4 a5) := by
 intro a0 a1 a2 a3 a4 a5 k
 obtain ⟨ih0, ih1, ih2, ih3, ih4⟩ := bywashlaw11_BlockBetween.mono_l k
 unfold bywashlaw11_BlockBetween.f
 repeat' first
   | (with_reducible exact ih0 _ _ _ _ _ _ _)
   | (with_reducible exact ih1 _ _ _ _ _ _ _ _ _ _ _ _)
   | (with_reducible exact ih2 _ _ _ _ _ _ _ _ _ _ _ _ _)
   | (with_reducible exact ih3 _ _ _ _ _ _ _ _ _ _ _ _ _ _)
   | (with_reducible exact ih4 _ _ _ _ _ _ _ _ _)
   | (with_reducible exact block_Blocks_Take.mono _ _ _ _ _ _ _ _ _)
   | (with_reducible exact block_Cut.mono _ _ _ _ _)
   | (with_reducible exact bywashlaw11_alive.mono _)
   | (with_reducible exact bywashref1_Check.mono _ _ _ _ _)
   | (with_reducible exact LeO.refl _)
   | (with_reducible exact LeO.none _)
   | (with_reducible refine LeO.ite ?_ ?_)
   | (with_reducible refine LeO.bind ?_ (fun _ => ?_))
   | exact ih0 _ _ _ _ _ _ _
   | exact ih1 _ _ _ _ _ _ _ _ _ _ _ _
   | exact ih2 _ _ _ _ _ _ _ _ _ _ _ _ _
   | exact ih3 _ _ _ _ _ _ _ _ _ _ _ _ _ _
   | exact ih4 _ _ _ _ _ _ _ _ _
   | exact block_Blocks_Take.mono _ _ _ _ _ _ _ _ _
   | exact block_Cut.mono _ _ _ _ _
   | exact bywashlaw11_alive.mono _
   | exact bywashref1_Check.mono _ _ _ _ _
   | exact LeO.none _
   | refine LeO.ite ?_ ?_
   | refine LeO.bind ?_ (fun _ => ?_)
set_option maxHeartbeats 8000000 in
set_option maxRecDepth 100000 in
theorem bywashlaw11_BlockBetween.calls (k : Nat) (a0 : ByteArray) (a1_0 : Int) (a1_1 : Int) (a1_2 : Int) (a1_3 : ByteArray) (a2 : Int) (r : Bool) (w : World) (h : bywashlaw11_BlockBetween.f k a0 a1_0 a1_1 a1_2 a1_3 a2 = some r) :
  Calls Try.prog 6 #[.string a0, .agg #[.int .i64 a1_0, .int .i64 a1_1, .int .i64 a1_2, .string a1_3], .int .i64 a2] w fun e w' => e = .returned (.bool r) ∧ Below w.heap.size w w' := by
 have hfs41_0 : ∀ (v0_ : Int) (v1_ : ByteArray) (v2_ : Bool) (W_ : World), (Instr.field 41 (.agg #[.int .i64 v0_, .string v1_, .bool v2_]) 0).run Try.prog W_ = .ok (.int .i64 v0_) W_ := fun v0_ v1_ v2_ _ => by kernel_rfl
 have hfs41_1 : ∀ (v0_ : Int) (v1_ : ByteArray) (v2_ : Bool) (W_ : World), (Instr.field 41 (.agg #[.int .i64 v0_, .string v1_, .bool v2_]) 1).run Try.prog W_ = .ok (.string v1_) W_ := fun v0_ v1_ v2_ _ => by kernel_rfl
 have hfs41_2 : ∀ (v0_ : Int) (v1_ : ByteArray) (v2_ : Bool) (W_ : World), (Instr.field 41 (.agg #[.int .i64 v0_, .string v1_, .bool v2_]) 2).run Try.prog W_ = .ok (.bool v2_) W_ := fun v0_ v1_ v2_ _ => by kernel_rfl
 have hu39 := Try.underlying39
 have hu41 := Try.underlying41
 have HB := Aside0.mk (Below.refl w.heap.size w)
 have H : (if (a0.size : Int) < 65 then (bywashlaw11_BlockBetween.j0 k a0 a2 true a1_0 a1_1 a1_2 a1_3) else (if (a0.size : Int) > 600 then (bywashlaw11_BlockBetween.j0 k a0 a2 true a1_0 a1_1 a1_2 a1_3) else (if (a1_3.size : Int) > 600 then (bywashlaw11_BlockBetween.j0 k a0 a2 true a1_0 a1_1 a1_2 a1_3) else ((bywashlaw11_alive.f k).bind fun t191 => (bywashlaw11_BlockBetween.j0 k a0 a2 (!t191) a1_0 a1_1 a1_2 a1_3))))) = some r := h
 clear h
 have HC4 := Aside0.mk H
 clear H
 go_enter Try.func6, Try.ntmps6
 go_upto_region 1 with (first | ((with_reducible refine gate_dst (N := 4) rfl ?_); (try (refine gate_guard (by rfl) ?_; dsimp only)); refine box_event ?hg (N := 4) ?hd (cs := #[.int .i64 a1_0, .int .i64 a1_1, .int .i64 a1_2, .string a1_3]) (t := 39) ?hr ?_; (case hd => rfl); (case hg => rfl); (case hr => first | (go_simp; done) | (go_simp; rfl)); intro gb190 hg w5 hbox hb; have n0_ := Aside0.mk (below_step (by repeat (first | (with_reducible first | exact HB.out | apply below_alloc | apply pw_below_drewN | apply below_drew1) | exact HB.out)) hb); have n1_ := Aside0.mk (hbox); have n2_ := Aside0.mk ((by rw [hg]; exact (below_size (by repeat (first | (with_reducible first | exact HB.out | apply below_alloc | apply pw_below_drewN | apply below_drew1) | exact HB.out))) : w.heap.size ≤ gb190)); have n3_ := Aside0.mk ((by rw [hg]; exact (below_size (by repeat (first | (with_reducible first | exact HB.out | apply below_alloc | apply pw_below_drewN | apply below_drew1) | exact HB.out))) : w.heap.size ≤ gb190)); clear HB; have HB := n0_; have BK190 := n1_; have GW190 := n2_; have GE190 := n3_; clear n0_ n1_ n2_ n3_; clear hb hbox hg))
 (try simp only [Act.put, List.setIfInBounds_toArray, List.set_cons_zero, List.set_cons_succ])
 go_cut [42] (fun v42 wc => ∃ (kq : Nat) (x42_3 : Bool), v42 = .bool x42_3 ∧ Aside0 (bywashlaw11_BlockBetween.j0 kq a0 a2 x42_3 a1_0 a1_1 a1_2 a1_3 = some r) ∧ Aside0 (kq ≤ k) ∧ Aside0 (wc.heap[gb190]? = some (.cells #[.int .i64 a1_0, .int .i64 a1_1, .int .i64 a1_2, .string a1_3] 39 (0, 0))) ∧ Aside0 (Below w.heap.size w wc))
 case first =>
  have H := HC4.out
  clear HC4
  by_cases c6 : (a0.size : Int) < 65
  ·rw [if_pos c6] at H
   have c6b0 : decide ((a0.size : Int) < 65) = true := decide_eq_true c6
   have c6b1 : decide (a0.size < 65) = true := decide_eq_true (by omega)
   clear c6
   (first | rw [c6b0] | (simp only [i64_w, i32_w]; rw [c6b0]) | skip)
   have H' := Aside0.mk H
   clear H
   go_wp2
   go_meet
   case rel => exact ⟨_, (true), (by first | rfl | (simp; done) | (simp [*]; done)), H', ⟨by first | omega | exact Nat.le_refl _⟩, ⟨by (with_reducible repeat (first | refine blk_drewN ?_ _ | refine blk_drew ?_ | refine blk_alloc ?_ _)); exact BK190.out⟩, ⟨by repeat (first | (with_reducible first | exact HB.out | apply below_alloc | apply pw_below_drewN | apply below_drew1 | refine below_set ?_ GE190.out) | exact HB.out)⟩⟩
  ·rw [if_neg c6] at H
   have c6b0 : decide ((a0.size : Int) < 65) = false := decide_eq_false c6
   have c6b1 : decide (a0.size < 65) = false := decide_eq_false (by omega)
   clear c6
   (first | rw [c6b0] | (simp only [i64_w, i32_w]; rw [c6b0]) | skip)
   by_cases c7 : (a0.size : Int) > 600
   ·rw [if_pos c7] at H
    have c7b0 : decide (600 < (a0.size : Int)) = true := decide_eq_true c7
    have c7b1 : decide (600 < a0.size) = true := decide_eq_true (by omega)
    clear c7
    have H' := Aside0.mk H
    clear H
    go_wp2
    go_meet
    case rel => exact ⟨_, (true), (by first | rfl | (simp; done) | (simp [*]; done)), H', ⟨by first | omega | exact Nat.le_refl _⟩, ⟨by (with_reducible repeat (first | refine blk_drewN ?_ _ | refine blk_drew ?_ | refine blk_alloc ?_ _)); exact BK190.out⟩, ⟨by repeat (first | (with_reducible first | exact HB.out | apply below_alloc | apply pw_below_drewN | apply below_drew1 | refine below_set ?_ GE190.out) | exact HB.out)⟩⟩
   ·rw [if_neg c7] at H
    have c7b0 : decide (600 < (a0.size : Int)) = false := decide_eq_false c7
    have c7b1 : decide (600 < a0.size) = false := decide_eq_false (by omega)
    clear c7
    by_cases c8 : (a1_3.size : Int) > 600
    ·rw [if_pos c8] at H
     have c8b0 : decide (600 < (a1_3.size : Int)) = true := decide_eq_true c8
     have c8b1 : decide (600 < a1_3.size) = true := decide_eq_true (by omega)
     clear c8
     have H' := Aside0.mk H
     clear H
     have hcz9_0 : w5.cell? ⟨gb190, 0, none⟩ = some (.int .i64 a1_0) := (blk_cell BK190.out 0).trans rfl
     have hcz9_1 : w5.cell? ⟨gb190, 1, none⟩ = some (.int .i64 a1_1) := (blk_cell BK190.out 1).trans rfl
     have hcz9_2 : w5.cell? ⟨gb190, 2, none⟩ = some (.int .i64 a1_2) := (blk_cell BK190.out 2).trans rfl
     have hcz9_3 : w5.cell? ⟨gb190, 3, none⟩ = some (.string a1_3) := (blk_cell BK190.out 3).trans rfl
     have hfz9_0 := blk_frozen BK190.out 0
     have hfz9_1 := blk_frozen BK190.out 1
     have hfz9_2 := blk_frozen BK190.out 2
     have hfz9_3 := blk_frozen BK190.out 3
     go_wp2
     go_meet
     case rel => exact ⟨_, (true), (by first | rfl | (simp; done) | (simp [*]; done)), H', ⟨by first | omega | exact Nat.le_refl _⟩, ⟨by (with_reducible repeat (first | refine blk_drewN ?_ _ | refine blk_drew ?_ | refine blk_alloc ?_ _)); exact BK190.out⟩, ⟨by repeat (first | (with_reducible first | exact HB.out | apply below_alloc | apply pw_below_drewN | apply below_drew1 | refine below_set ?_ GE190.out) | exact HB.out)⟩⟩
    ·rw [if_neg c8] at H
     have c8b0 : decide (600 < (a1_3.size : Int)) = false := decide_eq_false c8
     have c8b1 : decide (600 < a1_3.size) = false := decide_eq_false (by omega)
     clear c8
     replace H := Option.bind_eq_some_iff.mp H
     obtain ⟨t191, A100, H⟩ := H
     replace H : (bywashlaw11_BlockBetween.j0 k a0 a2 (!t191) a1_0 a1_1 a1_2 a1_3) = some r := H
     have A10 := Aside0.mk A100
     clear A100
     have H' := Aside0.mk H
     clear H
     have hcz11_0 : w5.cell? ⟨gb190, 0, none⟩ = some (.int .i64 a1_0) := (blk_cell BK190.out 0).trans rfl
     have hcz11_1 : w5.cell? ⟨gb190, 1, none⟩ = some (.int .i64 a1_1) := (blk_cell BK190.out 1).trans rfl
     have hcz11_2 : w5.cell? ⟨gb190, 2, none⟩ = some (.int .i64 a1_2) := (blk_cell BK190.out 2).trans rfl
     have hcz11_3 : w5.cell? ⟨gb190, 3, none⟩ = some (.string a1_3) := (blk_cell BK190.out 3).trans rfl
     have hfz11_0 := blk_frozen BK190.out 0
     have hfz11_1 := blk_frozen BK190.out 1
     have hfz11_2 := blk_frozen BK190.out 2
     have hfz11_3 := blk_frozen BK190.out 3
     go_wp2_with (first | (go_at_call 10; (with_reducible refine (bywashlaw11_alive.calls k  t191 _ A10.out).mono ?_); rintro e w12 ⟨rfl, hb⟩; have n0_ := Aside0.mk (blk_below (g := gb190) (o := .cells #[.int .i64 a1_0, .int .i64 a1_1, .int .i64 a1_2, .string a1_3] 39 (0, 0)) (by (with_reducible repeat (first | refine blk_drewN ?_ _ | refine blk_drew ?_ | refine blk_alloc ?_ _)); exact BK190.out) hb); have n1_ := Aside0.mk (below_step (by repeat (first | (with_reducible first | exact HB.out | apply below_alloc | apply pw_below_drewN | apply below_drew1 | refine below_set ?_ GE190.out) | exact HB.out)) hb); clear BK190; clear HB; have BK190 := n0_; have HB := n1_; clear n0_ n1_; (try clear hb); (try clear hb2); (try clear hk); (try clear hi)))
     go_meet
     case rel => exact ⟨_, (!t191), (by first | rfl | (simp; done) | (simp [*]; done)), H', ⟨by first | omega | exact Nat.le_refl _⟩, ⟨by (with_reducible repeat (first | refine blk_drewN ?_ _ | refine blk_drew ?_ | refine blk_alloc ?_ _)); exact BK190.out⟩, ⟨by repeat (first | (with_reducible first | exact HB.out | apply below_alloc | apply pw_below_drewN | apply below_drew1 | refine below_set ?_ GE190.out) | exact HB.out)⟩⟩
 case rest =>
  clear HC4
  try clear p2
  try clear c6
  try clear c6b0
  try clear c6b1
  try clear c7
  try clear c7b0
  try clear c7b1
  try clear c8
  try clear c8b0
  try clear c8b1
  try clear hcz11_0
  try clear hcz11_1
  try clear hcz11_2
  try clear hcz11_3
  try clear hcz9_0
  try clear hcz9_1
  try clear hcz9_2
  try clear hcz9_3
  try clear hfz11_0
  try clear hfz11_1
  try clear hfz11_2
  try clear hfz11_3
  try clear hfz9_0
  try clear hfz9_1
  try clear hfz9_2
  try clear hfz9_3
  obtain ⟨kq, x42_3, rfl, HA, HJ3, BK190, HB⟩ := hcut
  cases kq with
  | zero => exact absurd HA.out (by simp [bywashlaw11_BlockBetween.j0])
  | succ kj3 =>
   have H := HA.out
   clear HA
   simp only [bywashlaw11_BlockBetween.j0] at H
   by_cases c13 : x42_3 = true
   ·subst c13
    have H1 : ((bywashlaw11_alive.f kj3).bind fun t192 => (some t192)) = some r := by rw [if_pos rfl] at H; exact H
    clear H
    have H := H1
    clear H1
    replace H := Option.bind_eq_some_iff.mp H
    obtain ⟨t192, A140, H⟩ := H
    replace H : (some t192) = some r := H
    have A14 := Aside0.mk A140
    clear A140
    obtain rfl := Option.some.inj H
    go_wp2_with (first | ((with_reducible refine gate_callee (f := 10) rfl ?_); refine goesL_ (some 43) rfl rfl Try.func10 (by kernel_rfl) rfl #[] rfl (by (try simp only [List.map_toArray, List.map_cons, List.map_nil]); first | done | rfl | (simp only [List.length_drop, List.length_take]; rfl)) ?_; (with_reducible refine (bywashlaw11_alive.calls kj3  t192 _ A14.out).mono ?_); rintro e w15 ⟨rfl, hb⟩; refine ⟨_, rfl, ?_⟩; have n0_ := Aside0.mk (blk_below (g := gb190) (o := .cells #[.int .i64 a1_0, .int .i64 a1_1, .int .i64 a1_2, .string a1_3] 39 (0, 0)) (by (with_reducible repeat (first | refine blk_drewN ?_ _ | refine blk_drew ?_ | refine blk_alloc ?_ _)); exact BK190.out) hb); have n1_ := Aside0.mk (below_step (by repeat (first | (with_reducible first | exact HB.out | apply below_alloc | apply pw_below_drewN | apply below_drew1 | refine below_set ?_ GE190.out) | exact HB.out)) hb); clear BK190; clear HB; have BK190 := n0_; have HB := n1_; clear n0_ n1_; (try clear hb); (try clear hb2); (try clear hk); (try clear hi)))
    go_ret
    exact ⟨by first | rfl | (simp [errW_none, errW_some] <;> rfl) | (simp [*, errW_none, errW_some] <;> rfl), by repeat (first | (with_reducible first | exact HB.out | apply below_alloc | apply pw_below_drewN | apply below_drew1 | refine below_set ?_ GE190.out) | exact HB.out)⟩
   ·replace c13 := Bool.eq_false_iff.mpr c13
    subst c13
    have H1 : ((block_Cut.f kj3 1 a0 false 64).bind fun bt193 => ((block_New.f 1000).bind fun bt197 => (if bt193.2 = true then (if (bt193.1.length : Int) < 2 then (bywashlaw11_BlockBetween.j1 kj3 a2 bt193.1 bt193.2 true a1_0 a1_1 a1_2 a1_3 bt197.1 bt197.2.1 bt197.2.2.1 bt197.2.2.2) else (if a1_0 = 9 then (bywashlaw11_BlockBetween.j1 kj3 a2 bt193.1 bt193.2 (a1_2 == 1) a1_0 a1_1 a1_2 a1_3 bt197.1 bt197.2.1 bt197.2.2.1 bt197.2.2.2) else (bywashlaw11_BlockBetween.j1 kj3 a2 bt193.1 bt193.2 false a1_0 a1_1 a1_2 a1_3 bt197.1 bt197.2.1 bt197.2.2.1 bt197.2.2.2))) else (bywashlaw11_BlockBetween.j1 kj3 a2 bt193.1 bt193.2 true a1_0 a1_1 a1_2 a1_3 bt197.1 bt197.2.1 bt197.2.2.1 bt197.2.2.2)))) = some r := by rw [if_neg (show ¬ (false = true) by decide)] at H; exact H
    clear H
    have H := H1
    clear H1
    replace H := Option.bind_eq_some_iff.mp H
    obtain ⟨⟨t193, t194⟩, A160, H⟩ := H
    replace H : ((block_New.f 1000).bind fun bt197 => (if t194 = true then (if (t193.length : Int) < 2 then (bywashlaw11_BlockBetween.j1 kj3 a2 t193 t194 true a1_0 a1_1 a1_2 a1_3 bt197.1 bt197.2.1 bt197.2.2.1 bt197.2.2.2) else (if a1_0 = 9 then (bywashlaw11_BlockBetween.j1 kj3 a2 t193 t194 (a1_2 == 1) a1_0 a1_1 a1_2 a1_3 bt197.1 bt197.2.1 bt197.2.2.1 bt197.2.2.2) else (bywashlaw11_BlockBetween.j1 kj3 a2 t193 t194 false a1_0 a1_1 a1_2 a1_3 bt197.1 bt197.2.1 bt197.2.2.1 bt197.2.2.2))) else (bywashlaw11_BlockBetween.j1 kj3 a2 t193 t194 true a1_0 a1_1 a1_2 a1_3 bt197.1 bt197.2.1 bt197.2.2.1 bt197.2.2.2))) = some r := H
    have A16 := Aside0.mk A160
    clear A160
    replace H := Option.bind_eq_some_iff.mp H
    obtain ⟨⟨t197, t198, t199, t200⟩, A170, H⟩ := H
    replace H : (if t194 = true then (if (t193.length : Int) < 2 then (bywashlaw11_BlockBetween.j1 kj3 a2 t193 t194 true a1_0 a1_1 a1_2 a1_3 t197 t198 t199 t200) else (if a1_0 = 9 then (bywashlaw11_BlockBetween.j1 kj3 a2 t193 t194 (a1_2 == 1) a1_0 a1_1 a1_2 a1_3 t197 t198 t199 t200) else (bywashlaw11_BlockBetween.j1 kj3 a2 t193 t194 false a1_0 a1_1 a1_2 a1_3 t197 t198 t199 t200))) else (bywashlaw11_BlockBetween.j1 kj3 a2 t193 t194 true a1_0 a1_1 a1_2 a1_3 t197 t198 t199 t200)) = some r := H
    have A17 := Aside0.mk A170
    clear A170
    have HC18 := Aside0.mk H
    clear H
    go_upto_region 5 with (first | ((with_reducible refine gate_callee (f := 11) rfl ?_); refine goesL_ (some 46) rfl rfl Try.func11 (by kernel_rfl) rfl #[.int .i64 1, .string a0, .bool false, .int .i64 64] rfl (by (try simp only [List.map_toArray, List.map_cons, List.map_nil]); first | done | rfl | (simp only [List.length_drop, List.length_take]; rfl)) ?_; (with_reducible refine (block_Cut.calls kj3 1 a0 false 64 t193 t194 _ A16.out).mono ?_); rintro e w19 ⟨v195, rfl, ho0, hb⟩; refine ⟨_, rfl, ?_⟩; have n0_ := Aside0.mk (Kd.R_lower (Kd.R_newB ho0 (g := gb190) (o := .cells #[.int .i64 a1_0, .int .i64 a1_1, .int .i64 a1_2, .string a1_3] 39 (0, 0)) (by (with_reducible repeat (first | refine blk_drewN ?_ _ | refine blk_drew ?_ | refine blk_alloc ?_ _)); exact BK190.out)) (below_size (by repeat (first | (with_reducible first | exact HB.out | apply below_alloc | apply pw_below_drewN | apply below_drew1 | refine below_set ?_ GE190.out) | exact HB.out)))); have n1_ := Aside0.mk (blk_below (g := gb190) (o := .cells #[.int .i64 a1_0, .int .i64 a1_1, .int .i64 a1_2, .string a1_3] 39 (0, 0)) (by (with_reducible repeat (first | refine blk_drewN ?_ _ | refine blk_drew ?_ | refine blk_alloc ?_ _)); exact BK190.out) hb); have n2_ := Aside0.mk (below_step (by repeat (first | (with_reducible first | exact HB.out | apply below_alloc | apply pw_below_drewN | apply below_drew1 | refine below_set ?_ GE190.out) | exact HB.out)) hb); clear BK190; clear HB; have HO196 := n0_; have BK190 := n1_; have HB := n2_; clear n0_ n1_ n2_; (try clear hb); (try clear hb2); (try clear hk); (try clear hi); (try clear ho0)) | ((with_reducible refine gate_callee (f := 15) rfl ?_); refine goesL_ (some 49) rfl rfl Try.func15 (by kernel_rfl) rfl #[.int .i64 1000] rfl (by (try simp only [List.map_toArray, List.map_cons, List.map_nil]); first | done | rfl | (simp only [List.length_drop, List.length_take]; rfl)) ?_; (with_reducible refine (block_New.calls 1000 t197 t198 t199 t200 w _ ?side1 A17.out).mono ?_); (case side1 => repeat (first | (with_reducible first | exact HB.out | apply below_alloc | apply pw_below_drewN | apply below_drew1 | refine below_set ?_ GE190.out) | exact HB.out)); rintro e w20 ⟨g201, rfl, hi, hb, hb2⟩; refine ⟨_, rfl, ?_⟩; have n0_ := Aside0.mk (Kd.R_below (by (with_reducible repeat (first | apply Kd.R_alloc | apply Kd.R_drewN | apply Kd.R_drew)); exact HO196.out) hb2); have n1_ := Aside0.mk (blk_below (g := gb190) (o := .cells #[.int .i64 a1_0, .int .i64 a1_1, .int .i64 a1_2, .string a1_3] 39 (0, 0)) (by (with_reducible repeat (first | refine blk_drewN ?_ _ | refine blk_drew ?_ | refine blk_alloc ?_ _)); exact BK190.out) hb2); have n2_ := Aside0.mk (hb); have n3_ := Aside0.mk (hi); have n4_ := Aside0.mk (IsS63.ne_blk hi (blk_below (g := gb190) (o := .cells #[.int .i64 a1_0, .int .i64 a1_1, .int .i64 a1_2, .string a1_3] 39 (0, 0)) (by (with_reducible repeat (first | refine blk_drewN ?_ _ | refine blk_drew ?_ | refine blk_alloc ?_ _)); exact BK190.out) hb2) (by decide)); have n5_ := Aside0.mk (Ne.symm (IsS63.ne_blk hi (blk_below (g := gb190) (o := .cells #[.int .i64 a1_0, .int .i64 a1_1, .int .i64 a1_2, .string a1_3] 39 (0, 0)) (by (with_reducible repeat (first | refine blk_drewN ?_ _ | refine blk_drew ?_ | refine blk_alloc ?_ _)); exact BK190.out) hb2) (by decide))); clear HO196; clear BK190; clear HB; have HO196 := n0_; have BK190 := n1_; have HB := n2_; have HI201 := n3_; have NB201_190 := n4_; have NB190_201 := n5_; clear n0_ n1_ n2_ n3_ n4_ n5_; (try clear hb); (try clear hb2); (try clear hk); (try clear hi)))
    (try simp only [Act.put, List.setIfInBounds_toArray, List.set_cons_zero, List.set_cons_succ])
    go_cut [70] (fun v70 wc => ∃ (kq : Nat) (x70_17 : Bool), v70 = .bool x70_17 ∧ Aside0 (bywashlaw11_BlockBetween.j1 kq a2 t193 t194 x70_17 a1_0 a1_1 a1_2 a1_3 t197 t198 t199 t200 = some r) ∧ Aside0 (kq ≤ kj3) ∧ Aside0 (Kd.R k39 39 wc w.heap.size (fun k_ => k_ ≠ gb190) v195 t193) ∧ Aside0 (wc.heap[gb190]? = some (.cells #[.int .i64 a1_0, .int .i64 a1_1, .int .i64 a1_2, .string a1_3] 39 (0, 0))) ∧ Aside0 (IsS63 w wc g201 t197 t198 t199 t200) ∧ Aside0 (Below w.heap.size w wc))
    case first =>
     have H := HC18.out
     clear HC18
     by_cases c21 : t194 = true
     ·subst c21
      have H1 : (if (t193.length : Int) < 2 then (bywashlaw11_BlockBetween.j1 kj3 a2 t193 true true a1_0 a1_1 a1_2 a1_3 t197 t198 t199 t200) else (if a1_0 = 9 then (bywashlaw11_BlockBetween.j1 kj3 a2 t193 true (a1_2 == 1) a1_0 a1_1 a1_2 a1_3 t197 t198 t199 t200) else (bywashlaw11_BlockBetween.j1 kj3 a2 t193 true false a1_0 a1_1 a1_2 a1_3 t197 t198 t199 t200))) = some r := by rw [if_pos rfl] at H; exact H
      clear H
      have H := H1
      clear H1
      by_cases c22 : (t193.length : Int) < 2
      ·rw [if_pos c22] at H
       have c22b0 : decide ((t193.length : Int) < 2) = true := decide_eq_true c22
       have c22b1 : decide (t193.length < 2) = true := decide_eq_true (by omega)
       clear c22
       (first | rw [c22b0] | (simp only [i64_w, i32_w]; rw [c22b0]) | skip)
       have H' := Aside0.mk H
       clear H
       obtain ⟨Ao23, co23, eo23⟩ := Kd.R_slice HO196.out
       subst eo23
       go_wp2
       go_meet
       case rel => exact ⟨_, (true), (by first | rfl | (simp; done) | (simp [*]; done)), H', ⟨by have := HJ3.out; first | omega | exact Nat.le_refl _⟩, ⟨by (with_reducible repeat (first | apply Kd.R_alloc | apply Kd.R_drewN | apply Kd.R_drew)); exact Kd.R_mono HO196.out (fun _ hk => hk.2)⟩, ⟨by (with_reducible repeat (first | refine blk_drewN ?_ _ | refine blk_drew ?_ | refine blk_alloc ?_ _)); exact BK190.out⟩, ⟨by repeat (first | (with_reducible first | exact HI201.out | apply IsS63.alloc | apply IsS63.drewN | apply IsS63.drew | apply IsS63.set_0 | apply IsS63.set_1 | apply IsS63.set_2 | apply IsS63.set_3 | refine IsS63.far ?_ NB201_190.out _ | apply IsS63.far (hne := NB201_190.out)) | exact HI201.out)⟩, ⟨by repeat (first | (with_reducible first | exact HB.out | apply below_alloc | apply pw_below_drewN | apply below_drew1 | refine below_set ?_ (IsS63.ge HI201.out) | refine below_set ?_ GE190.out) | exact HB.out)⟩⟩
      ·rw [if_neg c22] at H
       have c22b0 : decide ((t193.length : Int) < 2) = false := decide_eq_false c22
       have c22b1 : decide (t193.length < 2) = false := decide_eq_false (by omega)
       clear c22
       (first | rw [c22b0] | (simp only [i64_w, i32_w]; rw [c22b0]) | skip)
       by_cases c24 : a1_0 = 9
       ·rw [if_pos c24] at H
        have c24b0 : (a1_0 == 9) = true := beq_iff_eq.mpr c24
        have c24b1 : (a1_0 != 9) = false := bne_eq_false_iff_eq.mpr c24
        clear c24
        have H' := Aside0.mk H
        clear H
        obtain ⟨Ao25, co25, eo25⟩ := Kd.R_slice HO196.out
        subst eo25
        have hnb26 := NB190_201.out
        have hnc26 := NB201_190.out
        have hcz27_0 : w20.cell? ⟨gb190, 0, none⟩ = some (.int .i64 a1_0) := (blk_cell BK190.out 0).trans rfl
        have hcz27_1 : w20.cell? ⟨gb190, 1, none⟩ = some (.int .i64 a1_1) := (blk_cell BK190.out 1).trans rfl
        have hcz27_2 : w20.cell? ⟨gb190, 2, none⟩ = some (.int .i64 a1_2) := (blk_cell BK190.out 2).trans rfl
        have hcz27_3 : w20.cell? ⟨gb190, 3, none⟩ = some (.string a1_3) := (blk_cell BK190.out 3).trans rfl
        have hfz27_0 := blk_frozen BK190.out 0
        have hfz27_1 := blk_frozen BK190.out 1
        have hfz27_2 := blk_frozen BK190.out 2
        have hfz27_3 := blk_frozen BK190.out 3
        go_wp2
        go_meet
        case rel => exact ⟨_, ((a1_2 == 1)), (by first | rfl | (simp; done) | (simp [*]; done)), H', ⟨by have := HJ3.out; first | omega | exact Nat.le_refl _⟩, ⟨by (with_reducible repeat (first | apply Kd.R_alloc | apply Kd.R_drewN | apply Kd.R_drew)); exact Kd.R_mono HO196.out (fun _ hk => hk.2)⟩, ⟨by (with_reducible repeat (first | refine blk_drewN ?_ _ | refine blk_drew ?_ | refine blk_alloc ?_ _)); exact BK190.out⟩, ⟨by repeat (first | (with_reducible first | exact HI201.out | apply IsS63.alloc | apply IsS63.drewN | apply IsS63.drew | apply IsS63.set_0 | apply IsS63.set_1 | apply IsS63.set_2 | apply IsS63.set_3 | refine IsS63.far ?_ NB201_190.out _ | apply IsS63.far (hne := NB201_190.out)) | exact HI201.out)⟩, ⟨by repeat (first | (with_reducible first | exact HB.out | apply below_alloc | apply pw_below_drewN | apply below_drew1 | refine below_set ?_ (IsS63.ge HI201.out) | refine below_set ?_ GE190.out) | exact HB.out)⟩⟩
       ·rw [if_neg c24] at H
        have c24b0 : (a1_0 == 9) = false := beq_eq_false_iff_ne.mpr c24
        have c24b1 : (a1_0 != 9) = true := bne_iff_ne.mpr c24
        have H' := Aside0.mk H
        clear H
        obtain ⟨Ao28, co28, eo28⟩ := Kd.R_slice HO196.out
        subst eo28
        have hnb29 := NB190_201.out
        have hnc29 := NB201_190.out
        have hcz30_0 : w20.cell? ⟨gb190, 0, none⟩ = some (.int .i64 a1_0) := (blk_cell BK190.out 0).trans rfl
        have hcz30_1 : w20.cell? ⟨gb190, 1, none⟩ = some (.int .i64 a1_1) := (blk_cell BK190.out 1).trans rfl
        have hcz30_2 : w20.cell? ⟨gb190, 2, none⟩ = some (.int .i64 a1_2) := (blk_cell BK190.out 2).trans rfl
        have hcz30_3 : w20.cell? ⟨gb190, 3, none⟩ = some (.string a1_3) := (blk_cell BK190.out 3).trans rfl
        have hfz30_0 := blk_frozen BK190.out 0
        have hfz30_1 := blk_frozen BK190.out 1
        have hfz30_2 := blk_frozen BK190.out 2
        have hfz30_3 := blk_frozen BK190.out 3
        go_wp2
        go_meet
        case rel => exact ⟨_, (false), (by first | rfl | (simp; done) | (simp [*]; done)), H', ⟨by have := HJ3.out; first | omega | exact Nat.le_refl _⟩, ⟨by (with_reducible repeat (first | apply Kd.R_alloc | apply Kd.R_drewN | apply Kd.R_drew)); exact Kd.R_mono HO196.out (fun _ hk => hk.2)⟩, ⟨by (with_reducible repeat (first | refine blk_drewN ?_ _ | refine blk_drew ?_ | refine blk_alloc ?_ _)); exact BK190.out⟩, ⟨by repeat (first | (with_reducible first | exact HI201.out | apply IsS63.alloc | apply IsS63.drewN | apply IsS63.drew | apply IsS63.set_0 | apply IsS63.set_1 | apply IsS63.set_2 | apply IsS63.set_3 | refine IsS63.far ?_ NB201_190.out _ | apply IsS63.far (hne := NB201_190.out)) | exact HI201.out)⟩, ⟨by repeat (first | (with_reducible first | exact HB.out | apply below_alloc | apply pw_below_drewN | apply below_drew1 | refine below_set ?_ (IsS63.ge HI201.out) | refine below_set ?_ GE190.out) | exact HB.out)⟩⟩
     ·replace c21 := Bool.eq_false_iff.mpr c21
      subst c21
      have H1 : (bywashlaw11_BlockBetween.j1 kj3 a2 t193 false true a1_0 a1_1 a1_2 a1_3 t197 t198 t199 t200) = some r := by rw [if_neg (show ¬ (false = true) by decide)] at H; exact H
      clear H
      have H := H1
      clear H1
      have H' := Aside0.mk H
      clear H
      go_wp2
      go_meet
      case rel => exact ⟨_, (true), (by first | rfl | (simp; done) | (simp [*]; done)), H', ⟨by have := HJ3.out; first | omega | exact Nat.le_refl _⟩, ⟨by (with_reducible repeat (first | apply Kd.R_alloc | apply Kd.R_drewN | apply Kd.R_drew)); exact Kd.R_mono HO196.out (fun _ hk => hk.2)⟩, ⟨by (with_reducible repeat (first | refine blk_drewN ?_ _ | refine blk_drew ?_ | refine blk_alloc ?_ _)); exact BK190.out⟩, ⟨by repeat (first | (with_reducible first | exact HI201.out | apply IsS63.alloc | apply IsS63.drewN | apply IsS63.drew | apply IsS63.set_0 | apply IsS63.set_1 | apply IsS63.set_2 | apply IsS63.set_3 | refine IsS63.far ?_ NB201_190.out _ | apply IsS63.far (hne := NB201_190.out)) | exact HI201.out)⟩, ⟨by repeat (first | (with_reducible first | exact HB.out | apply below_alloc | apply pw_below_drewN | apply below_drew1 | refine below_set ?_ (IsS63.ge HI201.out) | refine below_set ?_ GE190.out) | exact HB.out)⟩⟩
    case rest =>
     clear HC18
     try clear c1
     try clear c2
     try clear p2
     try clear c6
     try clear c6b0
     try clear c6b1
     try clear c7
     try clear c7b0
     try clear c7b1
     try clear c8
     try clear c8b0
     try clear c8b1
     try clear c10
     try clear c11
     try clear c13
     try clear c15
     try clear c21
     try clear c22
     try clear c22b0
     try clear c22b1
     try clear c24
     try clear c24b0
     try clear c24b1
     try clear c26
     try clear c29
     try clear hcz11_0
     try clear hcz11_1
     try clear hcz11_2
     try clear hcz11_3
     try clear hcz27_0
     try clear hcz27_1
     try clear hcz27_2
     try clear hcz27_3
     try clear hcz30_0
     try clear hcz30_1
     try clear hcz30_2
     try clear hcz30_3
     try clear hcz9_0
     try clear hcz9_1
     try clear hcz9_2
     try clear hcz9_3
     try clear hfz11_0
     try clear hfz11_1
     try clear hfz11_2
     try clear hfz11_3
     try clear hfz27_0
     try clear hfz27_1
     try clear hfz27_2
     try clear hfz27_3
     try clear hfz30_0
     try clear hfz30_1
     try clear hfz30_2
     try clear hfz30_3
     try clear hfz9_0
     try clear hfz9_1
     try clear hfz9_2
     try clear hfz9_3
     try clear p2
     obtain ⟨kq, x70_17, rfl, HA, HJ17, HO_7, BK190, HI201, HB⟩ := hcut
     cases kq with
     | zero => exact absurd HA.out (by simp [bywashlaw11_BlockBetween.j1])
     | succ kj17 =>
      have H := HA.out
      clear HA
      simp only [bywashlaw11_BlockBetween.j1] at H
      by_cases c31 : x70_17 = true
      ·subst c31
       have H1 : (if t194 = true then (some (decide ((t193.length : Int) ≥ 2))) else (some false)) = some r := by rw [if_pos rfl] at H; exact H
       clear H
       have H := H1
       clear H1
       by_cases c32 : t194 = true
       ·subst c32
        have H1 : (some (decide ((t193.length : Int) ≥ 2))) = some r := by rw [if_pos rfl] at H; exact H
        clear H
        have H := H1
        clear H1
        obtain rfl := Option.some.inj H
        obtain ⟨Ao33, co33, eo33⟩ := Kd.R_slice HO_7.out
        subst eo33
        go_wp2
        go_ret
        exact ⟨by first | rfl | (simp [errW_none, errW_some] <;> rfl) | (simp [*, errW_none, errW_some] <;> rfl), by repeat (first | (with_reducible first | exact HB.out | apply below_alloc | apply pw_below_drewN | apply below_drew1 | refine below_set ?_ (IsS63.ge HI201.out) | refine below_set ?_ GE190.out) | exact HB.out)⟩
       ·replace c32 := Bool.eq_false_iff.mpr c32
        subst c32
        have H1 : (some false) = some r := by rw [if_neg (show ¬ (false = true) by decide)] at H; exact H
        clear H
        have H := H1
        clear H1
        obtain rfl := Option.some.inj H
        go_wp2
        go_ret
        exact ⟨by first | rfl | (simp [errW_none, errW_some] <;> rfl) | (simp [*, errW_none, errW_some] <;> rfl), by repeat (first | (with_reducible first | exact HB.out | apply below_alloc | apply pw_below_drewN | apply below_drew1 | refine below_set ?_ (IsS63.ge HI201.out) | refine below_set ?_ GE190.out) | exact HB.out)⟩
      ·replace c31 := Bool.eq_false_iff.mpr c31
       subst c31
       have H1 : (if (wrap64 ((t193.length : Int) - 1)) = 0 then (none) else (if 0 ≤ (wrap64 (1 + (Int.tmod (wrap64 ((wrap64 ((Int.tmod a2 (wrap64 ((t193.length : Int) - 1))) + (t193.length : Int))) - 1)) (wrap64 ((t193.length : Int) - 1))))) then (if (wrap64 (1 + (Int.tmod (wrap64 ((wrap64 ((Int.tmod a2 (wrap64 ((t193.length : Int) - 1))) + (t193.length : Int))) - 1)) (wrap64 ((t193.length : Int) - 1))))) ≤ (t193.length : Int) then ((some (t193.take ((wrap64 (1 + (Int.tmod (wrap64 ((wrap64 ((Int.tmod a2 (wrap64 ((t193.length : Int) - 1))) + (t193.length : Int))) - 1)) (wrap64 ((t193.length : Int) - 1))))) : Int).toNat : List (S39))).bind fun y202 => (bywashlaw11_BlockBetween.l0 kj17 t193 (wrap64 (1 + (Int.tmod (wrap64 ((wrap64 ((Int.tmod a2 (wrap64 ((t193.length : Int) - 1))) + (t193.length : Int))) - 1)) (wrap64 ((t193.length : Int) - 1))))) y202 (y202.length : Int) 0 a1_0 a1_1 a1_2 a1_3 t197 t198 t199 t200)) else (none)) else (none))) = some r := by rw [if_neg (show ¬ (false = true) by decide)] at H; exact H
       clear H
       have H := H1
       clear H1
       by_cases c34 : (wrap64 ((t193.length : Int) - 1)) = 0
       ·rw [if_pos c34] at H
        exact absurd H (by simp)
       ·rw [if_neg c34] at H
        have c34b0 : ((wrap64 ((t193.length : Int) - 1)) == 0) = false := beq_eq_false_iff_ne.mpr c34
        have c34b1 : ((wrap64 ((t193.length : Int) - 1)) != 0) = true := bne_iff_ne.mpr c34
        obtain ⟨ji35, hji35⟩ : ∃ j_ : Int, (wrap64 (1 + (Int.tmod (wrap64 ((wrap64 ((Int.tmod a2 (wrap64 ((t193.length : Int) - 1))) + (t193.length : Int))) - 1)) (wrap64 ((t193.length : Int) - 1))))) = j_ := ⟨_, rfl⟩
        replace H : (if 0 ≤ (ji35) then (if (ji35) ≤ (t193.length : Int) then ((some (t193.take ((ji35) : Int).toNat : List (S39))).bind fun y202 => (bywashlaw11_BlockBetween.l0 kj17 t193 ji35 y202 (y202.length : Int) 0 a1_0 a1_1 a1_2 a1_3 t197 t198 t199 t200)) else (none)) else (none)) = some r := by first | (rw [hji35] at H; exact H) | (simp only [hji35] at H ⊢; exact H)
        have hji35w : (IntKind.i64.wrap (1 + (Int.tmod (wrap64 ((wrap64 ((Int.tmod a2 (wrap64 ((t193.length : Int) - 1))) + (t193.length : Int))) - 1)) (wrap64 ((t193.length : Int) - 1))))) = ji35 := (i64_w _).trans hji35
        by_cases c36 : 0 ≤ (ji35)
        ·rw [if_pos c36] at H
         have c36b0 := eq_true c36
         have c36b1 : decide (0 ≤ (ji35)) = true := decide_eq_true c36
         clear c36
         by_cases c37 : (ji35) ≤ (t193.length : Int)
         ·rw [if_pos c37] at H
          have c37b0 := eq_true c37
          have c37b1 : decide ((ji35) ≤ (t193.length : Int)) = true := decide_eq_true c37
          clear c37
          obtain ⟨y202, hy202⟩ : ∃ y_ : List (S39), y_ = (t193.take ((ji35) : Int).toNat) := ⟨_, rfl⟩
          replace H : (bywashlaw11_BlockBetween.l0 kj17 t193 ji35 y202 (y202.length : Int) 0 a1_0 a1_1 a1_2 a1_3 t197 t198 t199 t200) = some r := by first | (rw [hy202]; with_reducible exact H) | (have H2_ := (Option.bind_some _ _).symm.trans H; rw [hy202]; with_reducible exact H2_) | (have H2_ := (Option.bind_some _ _).symm.trans H; with_reducible exact H2_) | with_reducible exact H | (rw [hy202]; exact H) | exact H
          have Ny202 := Aside0.mk hy202
          clear hy202
          have H' := Aside0.mk H
          clear H
          obtain ⟨Ao38, co38, eo38⟩ := Kd.R_slice HO_7.out
          subst eo38
          have q39 : ((ji35) : Int) ≤ ((t193.length : Int) : Int) := of_decide_eq_true (by first | (with_reducible assumption) | assumption)
          obtain ⟨i039, hi039, _, hsz39, _⟩ := info_parts info39
          have hroom39 : t193.length ≤ co38 := (Kd.R_reads' HO_7.out).2.1
          have hC39 : Kd.C k39 _ Ao38 t193.length t193 := (Kd.R_reads' HO_7.out).2.2
          have hcut39 := cut_to (P := Try.prog) 23 39 .i64 Try.underlying23 hi039 Ao38 t193.length co38 (ji35) (of_decide_eq_true (by first | (with_reducible assumption) | assumption)) q39 hroom39
          have hr39 := Kd.C_take (m := ((ji35) : Int).toNat) hC39 (by omega)
          have hy39 : y202.length = ((ji35) : Int).toNat := (by rw [Ny202.out, List.length_take]; omega)
          rw [← Ny202.out] at hr39
          rw [← hy39] at hcut39
          have HR205 := Aside0.mk hr39
          have HC205 := Aside0.mk (show y202.length ≤ co38 from by omega)
          clear hr39 hC39 hroom39 hi039 hsz39
          have KY39 := Aside0.mk hy39
          clear hy39
          have KL39 := Aside0.mk (show ((ji35) : Int).toNat ≤ t193.length from by omega)
          replace q39 := eq_true q39
          go_wp2
          go_loopg [99] kj17 (fun kq v99 w' => ∃ (x99_3 : Int) (x202000_3 : Int) (x202001_3 : Int) (x202002_3 : ByteArray) (x202003_3 : Bool), v99 = .int .i64 x99_3 ∧ Aside0 (bywashlaw11_BlockBetween.l0 kq t193 ji35 y202 (y202.length : Int) x99_3 a1_0 a1_1 a1_2 a1_3 x202000_3 x202001_3 x202002_3 x202003_3 = some r) ∧ Aside0 (kq ≤ kj17) ∧ Aside0 (Kd.R k39 39 w' w.heap.size (fun k_ => k_ ≠ gb190) (.slice Ao38 t193.length co38) t193) ∧ Aside0 (w'.heap[gb190]? = some (.cells #[.int .i64 a1_0, .int .i64 a1_1, .int .i64 a1_2, .string a1_3] 39 (0, 0))) ∧ Aside0 (IsS63 w w' g201 x202000_3 x202001_3 x202002_3 x202003_3) ∧ Aside0 (Below w.heap.size w w'))
          case atStart => exact ⟨(0), (t197), (t198), (t199), (t200), (by first | rfl | (simp; done) | (simp [*]; done)), H', ⟨Nat.le_refl _⟩, ⟨by (with_reducible repeat (first | apply Kd.R_alloc | apply Kd.R_drewN | apply Kd.R_drew)); exact HO_7.out⟩, ⟨by (with_reducible repeat (first | refine blk_drewN ?_ _ | refine blk_drew ?_ | refine blk_alloc ?_ _)); exact BK190.out⟩, ⟨by repeat (first | (with_reducible first | exact HI201.out | apply IsS63.alloc | apply IsS63.drewN | apply IsS63.drew | apply IsS63.set_0 | apply IsS63.set_1 | apply IsS63.set_2 | apply IsS63.set_3 | refine IsS63.far ?_ NB201_190.out _ | apply IsS63.far (hne := NB201_190.out)) | exact HI201.out)⟩, ⟨by repeat (first | (with_reducible first | exact HB.out | apply below_alloc | apply pw_below_drewN | apply below_drew1 | refine below_set ?_ (IsS63.ge HI201.out) | refine below_set ?_ GE190.out) | exact HB.out)⟩⟩
          case round =>
           clear H'
           try clear c1
           try clear c2
           try clear p2
           try clear c3
           try clear q3
           try clear c6
           try clear c6b0
           try clear c6b1
           try clear p6
           try clear c7
           try clear c7b0
           try clear c7b1
           try clear c8
           try clear c8b0
           try clear c8b1
           try clear c10
           try clear c11
           try clear c13
           try clear c15
           try clear c21
           try clear c22
           try clear c22b0
           try clear c22b1
           try clear c24
           try clear c24b0
           try clear c24b1
           try clear c26
           try clear c29
           try clear c31
           try clear c32
           try clear c34
           try clear c34b0
           try clear c34b1
           try clear c36
           try clear c36b0
           try clear c36b1
           try clear c37
           try clear c37b0
           try clear c37b1
           try clear q39
           try clear hcz11_0
           try clear hcz11_1
           try clear hcz11_2
           try clear hcz11_3
           try clear hcz27_0
           try clear hcz27_1
           try clear hcz27_2
           try clear hcz27_3
           try clear hcz30_0
           try clear hcz30_1
           try clear hcz30_2
           try clear hcz30_3
           try clear hcz9_0
           try clear hcz9_1
           try clear hcz9_2
           try clear hcz9_3
           try clear hfz11_0
           try clear hfz11_1
           try clear hfz11_2
           try clear hfz11_3
           try clear hfz27_0
           try clear hfz27_1
           try clear hfz27_2
           try clear hfz27_3
           try clear hfz30_0
           try clear hfz30_1
           try clear hfz30_2
           try clear hfz30_3
           try clear hfz9_0
           try clear hfz9_1
           try clear hfz9_2
           try clear hfz9_3
           try clear p2
           try clear q39
           obtain ⟨x99_3, x202000_3, x202001_3, x202002_3, x202003_3, rfl, HA, HK3, HO_7, BK190, HI201, HB⟩ := hrel
           cases gk with
           | zero => exact absurd HA.out (by simp [bywashlaw11_BlockBetween.l0])
           | succ k3 =>
            have H := HA.out
            clear HA
            simp only [bywashlaw11_BlockBetween.l0] at H
            by_cases c40 : x99_3 < (y202.length : Int)
            ·rw [if_pos c40] at H
             have c40b0 : decide (x99_3 < (y202.length : Int)) = true := decide_eq_true c40
             clear c40
             by_cases c41 : 0 ≤ x99_3
             ·rw [if_pos c41] at H
              have c41b0 : decide (0 ≤ x99_3) = true := decide_eq_true c41
              clear c41
              by_cases c42 : x99_3 < (y202.length : Int)
              ·rw [if_pos c42] at H
               have c42b0 : decide (x99_3 < (y202.length : Int)) = true := decide_eq_true c42
               clear c42
               replace H := Option.bind_eq_some_iff.mp H
               obtain ⟨⟨t208, t209, t210, t211, t212, t213, t214, t215, t216⟩, A430, H⟩ := H
               replace H : (if t211 = true then (bywashlaw11_BlockBetween.j3 k3 t193 ji35 y202 (y202.length : Int) x99_3 true a1_0 a1_1 a1_2 a1_3 t213 t214 t215 t216) else (if t212 = 0 then ((block_Blocks_Open.f t213 t214 t215 t216).bind fun bt218 => (bywashlaw11_BlockBetween.j3 k3 t193 ji35 y202 (y202.length : Int) x99_3 (bt218.1 != 1) a1_0 a1_1 a1_2 a1_3 bt218.2.1 bt218.2.2.1 bt218.2.2.2.1 bt218.2.2.2.2)) else (bywashlaw11_BlockBetween.j3 k3 t193 ji35 y202 (y202.length : Int) x99_3 true a1_0 a1_1 a1_2 a1_3 t213 t214 t215 t216))) = some r := H
               have A43 := Aside0.mk A430
               clear A430
               have HC44 := Aside0.mk H
               clear H
               have p206 : 0 ≤ (x99_3 : Int) := of_decide_eq_true (by first | (with_reducible assumption) | assumption)
               have q206 : x99_3 < (y202.length : Int) := of_decide_eq_true (by first | (with_reducible assumption) | assumption)
               have hz_ : Kd.C k39 _ Ao38 y202.length y202 := (by first | (have h_ := Kd.C_take (m := ((ji35) : Int).toNat) (Kd.R_reads' HO_7.out).2.2 KL39.out; rw [← Ny202.out] at h_; first | exact h_ | (rw [← KY39.out] at h_; exact h_)))
               obtain ⟨ad206, e206, hx206_0, hx206_1, hx206_2, hx206_3⟩ := at_T39 hz_ x99_3 p206 q206
               cases e206
               replace p206 := eq_true p206
               replace q206 := eq_true q206
               go_upto_region 12 with (first | ((with_reducible refine gate_dst (N := 12) rfl ?_); (try (refine gate_guard (by rfl) ?_; dsimp only)); refine box_event ?hg (N := 12) ?hd (cs := #[.int .i64 0, .int .i64 0, .int .i64 0, .string (⟨#[]⟩ : ByteArray)]) (t := 39) ?hr ?_; (case hd => rfl); (case hg => rfl); (case hr => first | (go_simp; done) | (go_simp; rfl)); intro gb207 hg w45 hbox hb; have n0_ := Aside0.mk (Kd.R_below (Kd.R_elderB (by (with_reducible repeat (first | apply Kd.R_alloc | apply Kd.R_drewN | apply Kd.R_drew)); exact HO_7.out) gb207 (Nat.le_of_eq hg.symm)) hb); have n1_ := Aside0.mk (blk_below (g := gb190) (o := .cells #[.int .i64 a1_0, .int .i64 a1_1, .int .i64 a1_2, .string a1_3] 39 (0, 0)) (by (with_reducible repeat (first | refine blk_drewN ?_ _ | refine blk_drew ?_ | refine blk_alloc ?_ _)); exact BK190.out) hb); have n2_ := Aside0.mk (IsS63.below (by repeat (first | (with_reducible first | exact HI201.out | apply IsS63.alloc | apply IsS63.drewN | apply IsS63.drew | apply IsS63.set_0 | apply IsS63.set_1 | apply IsS63.set_2 | apply IsS63.set_3 | refine IsS63.far ?_ NB201_190.out _ | apply IsS63.far (hne := NB201_190.out)) | exact HI201.out)) hb); have n3_ := Aside0.mk (below_step (by repeat (first | (with_reducible first | exact HB.out | apply below_alloc | apply pw_below_drewN | apply below_drew1 | refine below_set ?_ (IsS63.ge HI201.out) | refine below_set ?_ GE190.out) | exact HB.out)) hb); have n4_ := Aside0.mk (hbox); have n5_ := Aside0.mk ((by rw [hg]; exact (below_size (by repeat (first | (with_reducible first | exact HB.out | apply below_alloc | apply pw_below_drewN | apply below_drew1 | refine below_set ?_ (IsS63.ge HI201.out) | refine below_set ?_ GE190.out) | exact HB.out))) : w.heap.size ≤ gb207)); have n6_ := Aside0.mk ((by rw [hg]; exact (below_size (by repeat (first | (with_reducible first | exact HB.out | apply below_alloc | apply pw_below_drewN | apply below_drew1 | refine below_set ?_ (IsS63.ge HI201.out) | refine below_set ?_ GE190.out) | exact HB.out))) : w.heap.size ≤ gb207)); have n7_ := Aside0.mk ((by rw [hg]; exact Nat.ne_of_lt (blk_lt (g := gb190) (o := .cells #[.int .i64 a1_0, .int .i64 a1_1, .int .i64 a1_2, .string a1_3] 39 (0, 0)) (by (with_reducible repeat (first | refine blk_drewN ?_ _ | refine blk_drew ?_ | refine blk_alloc ?_ _)); exact BK190.out)) : gb190 ≠ gb207)); have n8_ := Aside0.mk ((by rw [hg]; exact Nat.ne_of_gt (blk_lt (g := gb190) (o := .cells #[.int .i64 a1_0, .int .i64 a1_1, .int .i64 a1_2, .string a1_3] 39 (0, 0)) (by (with_reducible repeat (first | refine blk_drewN ?_ _ | refine blk_drew ?_ | refine blk_alloc ?_ _)); exact BK190.out)) : gb207 ≠ gb190)); have n9_ := Aside0.mk ((by rw [hg]; exact Nat.ne_of_lt (IsS63.lt (show IsS63 w _ g201 x202000_3 x202001_3 x202002_3 x202003_3 from by repeat (first | (with_reducible first | exact HI201.out | apply IsS63.alloc | apply IsS63.drewN | apply IsS63.drew | apply IsS63.set_0 | apply IsS63.set_1 | apply IsS63.set_2 | apply IsS63.set_3 | refine IsS63.far ?_ NB201_190.out _ | apply IsS63.far (hne := NB201_190.out)) | exact HI201.out))) : g201 ≠ gb207)); have n10_ := Aside0.mk ((by rw [hg]; exact Nat.ne_of_gt (IsS63.lt (show IsS63 w _ g201 x202000_3 x202001_3 x202002_3 x202003_3 from by repeat (first | (with_reducible first | exact HI201.out | apply IsS63.alloc | apply IsS63.drewN | apply IsS63.drew | apply IsS63.set_0 | apply IsS63.set_1 | apply IsS63.set_2 | apply IsS63.set_3 | refine IsS63.far ?_ NB201_190.out _ | apply IsS63.far (hne := NB201_190.out)) | exact HI201.out))) : gb207 ≠ g201)); clear HO_7; clear BK190; clear HI201; clear HB; have HO_7 := n0_; have BK190 := n1_; have HI201 := n2_; have HB := n3_; have BK207 := n4_; have GW207 := n5_; have GE207 := n6_; have NB190_207 := n7_; have NB207_190 := n8_; have NB201_207 := n9_; have NB207_201 := n10_; clear n0_ n1_ n2_ n3_ n4_ n5_ n6_ n7_ n8_ n9_ n10_; clear hb hbox hg; have hnb46 := NB207_190.out; have hnc46 := NB190_207.out; have hnb47 := NB207_201.out; have hnc47 := NB201_207.out; have hcz48_0 : w45.cell? ⟨gb207, 0, none⟩ = some (.int .i64 0) := (blk_cell BK207.out 0).trans rfl; have hcz48_1 : w45.cell? ⟨gb207, 1, none⟩ = some (.int .i64 0) := (blk_cell BK207.out 1).trans rfl; have hcz48_2 : w45.cell? ⟨gb207, 2, none⟩ = some (.int .i64 0) := (blk_cell BK207.out 2).trans rfl; have hcz48_3 : w45.cell? ⟨gb207, 3, none⟩ = some (.string (⟨#[]⟩ : ByteArray)) := (blk_cell BK207.out 3).trans rfl; have hfz48_0 := blk_frozen BK207.out 0; have hfz48_1 := blk_frozen BK207.out 1; have hfz48_2 := blk_frozen BK207.out 2; have hfz48_3 := blk_frozen BK207.out 3) | ((with_reducible refine gate_callee (f := 16) rfl ?_); refine goesL_ (some 106) rfl rfl Try.func16 (by kernel_rfl) rfl #[.pointer (some ⟨g201, 0, none⟩), .agg #[.int .i64 ((rd_T39 y202 x99_3).f0), .int .i64 ((rd_T39 y202 x99_3).f1), .int .i64 ((rd_T39 y202 x99_3).f2), .string ((rd_T39 y202 x99_3).f3)]] rfl (by (try simp only [List.map_toArray, List.map_cons, List.map_nil]); first | done | rfl | (simp only [List.length_drop, List.length_take]; rfl)) ?_; (with_reducible refine (block_Blocks_Take.calls k3 g201 x202000_3 x202001_3 x202002_3 x202003_3 ((rd_T39 y202 x99_3).f0) ((rd_T39 y202 x99_3).f1) ((rd_T39 y202 x99_3).f2) ((rd_T39 y202 x99_3).f3) t208 t209 t210 t211 t212 t213 t214 t215 t216 w _ ?side1 ?side2 A43.out).mono ?_); (case side1 => repeat (first | (with_reducible first | exact HI201.out | apply IsS63.alloc | apply IsS63.drewN | apply IsS63.drew | apply IsS63.set_0 | apply IsS63.set_1 | apply IsS63.set_2 | apply IsS63.set_3 | refine IsS63.far ?_ NB201_190.out _ | apply IsS63.far (hne := NB201_190.out) | refine IsS63.far ?_ NB201_207.out _ | apply IsS63.far (hne := NB201_207.out)) | exact HI201.out)); (case side2 => repeat (first | (with_reducible first | exact HB.out | apply below_alloc | apply pw_below_drewN | apply below_drew1 | refine below_set ?_ (IsS63.ge HI201.out) | refine below_set ?_ GE190.out | refine below_set ?_ GE207.out) | exact HB.out)); rintro e w49 ⟨rfl, hi, hb, hk⟩; refine ⟨_, rfl, ?_⟩; have n0_ := Aside0.mk (Kd.R_mono (Kd.R_keep (IsS63.apart (show IsS63 w _ g201 x202000_3 x202001_3 x202002_3 x202003_3 from by repeat (first | (with_reducible first | exact HI201.out | apply IsS63.alloc | apply IsS63.drewN | apply IsS63.drew | apply IsS63.set_0 | apply IsS63.set_1 | apply IsS63.set_2 | apply IsS63.set_3 | refine IsS63.far ?_ NB201_190.out _ | apply IsS63.far (hne := NB201_190.out) | refine IsS63.far ?_ NB201_207.out _ | apply IsS63.far (hne := NB201_207.out)) | exact HI201.out)) (by (with_reducible repeat (first | apply Kd.R_alloc | apply Kd.R_drewN | apply Kd.R_drew)); exact (Kd.R_mono (Kd.R_far (p := ⟨gb207, 3, none⟩) (Kd.R_far (p := ⟨gb207, 2, none⟩) (Kd.R_far (p := ⟨gb207, 1, none⟩) (Kd.R_far (p := ⟨gb207, 0, none⟩) (Kd.R_mono HO_7.out (fun k_ hk => (⟨hk, hk.2⟩ : _ ∧ k_ ≠ gb207))) (fun _ hk => hk.2) (.int .i64 ((rd_T39 y202 x99_3).f0))) (fun _ hk => hk.2) (.int .i64 ((rd_T39 y202 x99_3).f1))) (fun _ hk => hk.2) (.int .i64 ((rd_T39 y202 x99_3).f2))) (fun _ hk => hk.2) (.string ((rd_T39 y202 x99_3).f3))) (fun _ h_ => h_.1))) (by decide)) hk (fun _ h => h.2)) (fun _ h => h.1)); have n1_ := Aside0.mk (KeepBut.blk hk (g' := gb190) (o := .cells #[.int .i64 a1_0, .int .i64 a1_1, .int .i64 a1_2, .string a1_3] 39 (0, 0)) (by (with_reducible repeat (first | refine blk_drewN ?_ _ | refine blk_drew ?_ | refine blk_alloc ?_ _)); refine blk_far ?_ NB190_207.out _; (with_reducible repeat (first | refine blk_drewN ?_ _ | refine blk_drew ?_ | refine blk_alloc ?_ _)); refine blk_far ?_ NB190_207.out _; (with_reducible repeat (first | refine blk_drewN ?_ _ | refine blk_drew ?_ | refine blk_alloc ?_ _)); refine blk_far ?_ NB190_207.out _; (with_reducible repeat (first | refine blk_drewN ?_ _ | refine blk_drew ?_ | refine blk_alloc ?_ _)); refine blk_far ?_ NB190_207.out _; (with_reducible repeat (first | refine blk_drewN ?_ _ | refine blk_drew ?_ | refine blk_alloc ?_ _)); exact BK190.out) NB190_201.out (by simp)); have n2_ := Aside0.mk (KeepBut.blk hk (g' := gb207) (o := .cells #[.int .i64 ((rd_T39 y202 x99_3).f0), .int .i64 ((rd_T39 y202 x99_3).f1), .int .i64 ((rd_T39 y202 x99_3).f2), .string ((rd_T39 y202 x99_3).f3)] 39 (0, 0)) (by (with_reducible repeat (first | refine blk_drewN ?_ _ | refine blk_drew ?_ | refine blk_alloc ?_ _)); refine blk_put (cs := #[.int .i64 ((rd_T39 y202 x99_3).f0), .int .i64 ((rd_T39 y202 x99_3).f1), .int .i64 ((rd_T39 y202 x99_3).f2), .string (⟨#[]⟩ : ByteArray)]) ?_ 3 _ rfl; (with_reducible repeat (first | refine blk_drewN ?_ _ | refine blk_drew ?_ | refine blk_alloc ?_ _)); refine blk_put (cs := #[.int .i64 ((rd_T39 y202 x99_3).f0), .int .i64 ((rd_T39 y202 x99_3).f1), .int .i64 0, .string (⟨#[]⟩ : ByteArray)]) ?_ 2 _ rfl; (with_reducible repeat (first | refine blk_drewN ?_ _ | refine blk_drew ?_ | refine blk_alloc ?_ _)); refine blk_put (cs := #[.int .i64 ((rd_T39 y202 x99_3).f0), .int .i64 0, .int .i64 0, .string (⟨#[]⟩ : ByteArray)]) ?_ 1 _ rfl; (with_reducible repeat (first | refine blk_drewN ?_ _ | refine blk_drew ?_ | refine blk_alloc ?_ _)); refine blk_put (cs := #[.int .i64 0, .int .i64 0, .int .i64 0, .string (⟨#[]⟩ : ByteArray)]) ?_ 0 _ rfl; (with_reducible repeat (first | refine blk_drewN ?_ _ | refine blk_drew ?_ | refine blk_alloc ?_ _)); exact BK207.out) NB207_201.out (by simp)); have n3_ := Aside0.mk (hb); have n4_ := Aside0.mk (hi); clear HO_7; clear BK190; clear BK207; clear HB; clear HI201; have HO_7 := n0_; have BK190 := n1_; have BK207 := n2_; have HB := n3_; have HI201 := n4_; clear n0_ n1_ n2_ n3_ n4_; (try clear hb); (try clear hb2); (try clear hk); (try clear hi)) | ((with_reducible refine gate_dst (N := 13) rfl ?_); (try (refine gate_guard (by rfl) ?_; dsimp only)); refine box_event ?hg (N := 13) ?hd (cs := #[.int .i64 0, .string (⟨#[]⟩ : ByteArray), .bool false]) (t := 41) ?hr ?_; (case hd => rfl); (case hg => rfl); (case hr => first | (go_simp; done) | (go_simp; rfl)); intro gb217 hg w50 hbox hb; have n0_ := Aside0.mk (Kd.R_below (by (with_reducible repeat (first | apply Kd.R_alloc | apply Kd.R_drewN | apply Kd.R_drew)); exact HO_7.out) hb); have n1_ := Aside0.mk (blk_below (g := gb190) (o := .cells #[.int .i64 a1_0, .int .i64 a1_1, .int .i64 a1_2, .string a1_3] 39 (0, 0)) (by (with_reducible repeat (first | refine blk_drewN ?_ _ | refine blk_drew ?_ | refine blk_alloc ?_ _)); exact BK190.out) hb); have n2_ := Aside0.mk (IsS63.below (by repeat (first | (with_reducible first | exact HI201.out | apply IsS63.alloc | apply IsS63.drewN | apply IsS63.drew | apply IsS63.set_0 | apply IsS63.set_1 | apply IsS63.set_2 | apply IsS63.set_3 | refine IsS63.far ?_ NB201_190.out _ | apply IsS63.far (hne := NB201_190.out) | refine IsS63.far ?_ NB201_207.out _ | apply IsS63.far (hne := NB201_207.out)) | exact HI201.out)) hb); have n3_ := Aside0.mk (blk_below (g := gb207) (o := .cells #[.int .i64 ((rd_T39 y202 x99_3).f0), .int .i64 ((rd_T39 y202 x99_3).f1), .int .i64 ((rd_T39 y202 x99_3).f2), .string ((rd_T39 y202 x99_3).f3)] 39 (0, 0)) (by (with_reducible repeat (first | refine blk_drewN ?_ _ | refine blk_drew ?_ | refine blk_alloc ?_ _)); exact BK207.out) hb); have n4_ := Aside0.mk (below_step (by repeat (first | (with_reducible first | exact HB.out | apply below_alloc | apply pw_below_drewN | apply below_drew1 | refine below_set ?_ (IsS63.ge HI201.out) | refine below_set ?_ GE190.out | refine below_set ?_ GE207.out) | exact HB.out)) hb); have n5_ := Aside0.mk (hbox); have n6_ := Aside0.mk ((by rw [hg]; exact (below_size (by repeat (first | (with_reducible first | exact HB.out | apply below_alloc | apply pw_below_drewN | apply below_drew1 | refine below_set ?_ (IsS63.ge HI201.out) | refine below_set ?_ GE190.out | refine below_set ?_ GE207.out) | exact HB.out))) : w.heap.size ≤ gb217)); have n7_ := Aside0.mk ((by rw [hg]; exact (below_size (by repeat (first | (with_reducible first | exact HB.out | apply below_alloc | apply pw_below_drewN | apply below_drew1 | refine below_set ?_ (IsS63.ge HI201.out) | refine below_set ?_ GE190.out | refine below_set ?_ GE207.out) | exact HB.out))) : w.heap.size ≤ gb217)); have n8_ := Aside0.mk ((by rw [hg]; exact Nat.ne_of_lt (blk_lt (g := gb190) (o := .cells #[.int .i64 a1_0, .int .i64 a1_1, .int .i64 a1_2, .string a1_3] 39 (0, 0)) (by (with_reducible repeat (first | refine blk_drewN ?_ _ | refine blk_drew ?_ | refine blk_alloc ?_ _)); exact BK190.out)) : gb190 ≠ gb217)); have n9_ := Aside0.mk ((by rw [hg]; exact Nat.ne_of_gt (blk_lt (g := gb190) (o := .cells #[.int .i64 a1_0, .int .i64 a1_1, .int .i64 a1_2, .string a1_3] 39 (0, 0)) (by (with_reducible repeat (first | refine blk_drewN ?_ _ | refine blk_drew ?_ | refine blk_alloc ?_ _)); exact BK190.out)) : gb217 ≠ gb190)); have n10_ := Aside0.mk ((by rw [hg]; exact Nat.ne_of_lt (blk_lt (g := gb207) (o := .cells #[.int .i64 ((rd_T39 y202 x99_3).f0), .int .i64 ((rd_T39 y202 x99_3).f1), .int .i64 ((rd_T39 y202 x99_3).f2), .string ((rd_T39 y202 x99_3).f3)] 39 (0, 0)) (by (with_reducible repeat (first | refine blk_drewN ?_ _ | refine blk_drew ?_ | refine blk_alloc ?_ _)); exact BK207.out)) : gb207 ≠ gb217)); have n11_ := Aside0.mk ((by rw [hg]; exact Nat.ne_of_gt (blk_lt (g := gb207) (o := .cells #[.int .i64 ((rd_T39 y202 x99_3).f0), .int .i64 ((rd_T39 y202 x99_3).f1), .int .i64 ((rd_T39 y202 x99_3).f2), .string ((rd_T39 y202 x99_3).f3)] 39 (0, 0)) (by (with_reducible repeat (first | refine blk_drewN ?_ _ | refine blk_drew ?_ | refine blk_alloc ?_ _)); exact BK207.out)) : gb217 ≠ gb207)); have n12_ := Aside0.mk ((by rw [hg]; exact Nat.ne_of_lt (IsS63.lt (show IsS63 w _ g201 t213 t214 t215 t216 from by repeat (first | (with_reducible first | exact HI201.out | apply IsS63.alloc | apply IsS63.drewN | apply IsS63.drew | apply IsS63.set_0 | apply IsS63.set_1 | apply IsS63.set_2 | apply IsS63.set_3 | refine IsS63.far ?_ NB201_190.out _ | apply IsS63.far (hne := NB201_190.out) | refine IsS63.far ?_ NB201_207.out _ | apply IsS63.far (hne := NB201_207.out)) | exact HI201.out))) : g201 ≠ gb217)); have n13_ := Aside0.mk ((by rw [hg]; exact Nat.ne_of_gt (IsS63.lt (show IsS63 w _ g201 t213 t214 t215 t216 from by repeat (first | (with_reducible first | exact HI201.out | apply IsS63.alloc | apply IsS63.drewN | apply IsS63.drew | apply IsS63.set_0 | apply IsS63.set_1 | apply IsS63.set_2 | apply IsS63.set_3 | refine IsS63.far ?_ NB201_190.out _ | apply IsS63.far (hne := NB201_190.out) | refine IsS63.far ?_ NB201_207.out _ | apply IsS63.far (hne := NB201_207.out)) | exact HI201.out))) : gb217 ≠ g201)); clear HO_7; clear BK190; clear HI201; clear BK207; clear HB; have HO_7 := n0_; have BK190 := n1_; have HI201 := n2_; have BK207 := n3_; have HB := n4_; have BK217 := n5_; have GW217 := n6_; have GE217 := n7_; have NB190_217 := n8_; have NB217_190 := n9_; have NB207_217 := n10_; have NB217_207 := n11_; have NB201_217 := n12_; have NB217_201 := n13_; clear n0_ n1_ n2_ n3_ n4_ n5_ n6_ n7_ n8_ n9_ n10_ n11_ n12_ n13_; clear hb hbox hg; have hnb51 := NB217_190.out; have hnc51 := NB190_217.out; have hnb52 := NB217_207.out; have hnc52 := NB207_217.out; have hnb53 := NB217_201.out; have hnc53 := NB201_217.out; have hcz54_0 : w50.cell? ⟨gb217, 0, none⟩ = some (.int .i64 0) := (blk_cell BK217.out 0).trans rfl; have hcz54_1 : w50.cell? ⟨gb217, 1, none⟩ = some (.string (⟨#[]⟩ : ByteArray)) := (blk_cell BK217.out 1).trans rfl; have hcz54_2 : w50.cell? ⟨gb217, 2, none⟩ = some (.bool false) := (blk_cell BK217.out 2).trans rfl; have hfz54_0 := blk_frozen BK217.out 0; have hfz54_1 := blk_frozen BK217.out 1; have hfz54_2 := blk_frozen BK217.out 2))
               (try simp only [Act.put, List.setIfInBounds_toArray, List.set_cons_zero, List.set_cons_succ])
               go_cut [119] (fun v119 wc => ∃ (kq : Nat) (x119_43 : Bool) (x202000_43 : Int) (x202001_43 : Int) (x202002_43 : ByteArray) (x202003_43 : Bool), v119 = .bool x119_43 ∧ Aside0 (bywashlaw11_BlockBetween.j3 kq t193 ji35 y202 (y202.length : Int) x99_3 x119_43 a1_0 a1_1 a1_2 a1_3 x202000_43 x202001_43 x202002_43 x202003_43 = some r) ∧ Aside0 (kq ≤ k3) ∧ Aside0 (Kd.R k39 39 wc w.heap.size (fun k_ => k_ ≠ gb190 ∧ k_ ≠ gb207) (.slice (some ad206) t193.length co38) t193) ∧ Aside0 (wc.heap[gb190]? = some (.cells #[.int .i64 a1_0, .int .i64 a1_1, .int .i64 a1_2, .string a1_3] 39 (0, 0))) ∧ Aside0 (wc.heap[gb207]? = some (.cells #[.int .i64 ((rd_T39 y202 x99_3).f0), .int .i64 ((rd_T39 y202 x99_3).f1), .int .i64 ((rd_T39 y202 x99_3).f2), .string ((rd_T39 y202 x99_3).f3)] 39 (0, 0))) ∧ Aside0 (wc.heap[gb217]? = some (.cells #[.int .i64 t208, .string t209, .bool t210] 41 (0, 0))) ∧ Aside0 (IsS63 w wc g201 x202000_43 x202001_43 x202002_43 x202003_43) ∧ Aside0 (Below w.heap.size w wc))
               case first =>
                have H := HC44.out
                clear HC44
                by_cases c55 : t211 = true
                ·subst c55
                 have H1 : (bywashlaw11_BlockBetween.j3 k3 t193 ji35 y202 (y202.length : Int) x99_3 true a1_0 a1_1 a1_2 a1_3 t213 t214 t215 t216) = some r := by rw [if_pos rfl] at H; exact H
                 clear H
                 have H := H1
                 clear H1
                 have H' := Aside0.mk H
                 clear H
                 go_wp2
                 go_meet
                 case rel => exact ⟨_, (true), (t213), (t214), (t215), (t216), (by first | rfl | (simp; done) | (simp [*]; done)), H', ⟨by have := HJ3.out; have := HJ17.out; have := HK3.out; first | omega | exact Nat.le_refl _⟩, ⟨by (with_reducible repeat (first | apply Kd.R_alloc | apply Kd.R_drewN | apply Kd.R_drew)); exact Kd.R_mono (Kd.R_far (p := ⟨gb217, 2, none⟩) (Kd.R_far (p := ⟨gb217, 1, none⟩) (Kd.R_far (p := ⟨gb217, 0, none⟩) (Kd.R_types HO_7.out BK217.out (by decide)) (fun _ hk => hk.2) (.int .i64 t208)) (fun _ hk => hk.2) (.string t209)) (fun _ hk => hk.2) (.bool t210)) (fun _ hk => ⟨hk.1.1, hk.1.2⟩)⟩, ⟨by (with_reducible repeat (first | refine blk_drewN ?_ _ | refine blk_drew ?_ | refine blk_alloc ?_ _)); refine blk_far ?_ NB190_217.out _; (with_reducible repeat (first | refine blk_drewN ?_ _ | refine blk_drew ?_ | refine blk_alloc ?_ _)); refine blk_far ?_ NB190_217.out _; (with_reducible repeat (first | refine blk_drewN ?_ _ | refine blk_drew ?_ | refine blk_alloc ?_ _)); refine blk_far ?_ NB190_217.out _; (with_reducible repeat (first | refine blk_drewN ?_ _ | refine blk_drew ?_ | refine blk_alloc ?_ _)); exact BK190.out⟩, ⟨by (with_reducible repeat (first | refine blk_drewN ?_ _ | refine blk_drew ?_ | refine blk_alloc ?_ _)); refine blk_far ?_ NB207_217.out _; (with_reducible repeat (first | refine blk_drewN ?_ _ | refine blk_drew ?_ | refine blk_alloc ?_ _)); refine blk_far ?_ NB207_217.out _; (with_reducible repeat (first | refine blk_drewN ?_ _ | refine blk_drew ?_ | refine blk_alloc ?_ _)); refine blk_far ?_ NB207_217.out _; (with_reducible repeat (first | refine blk_drewN ?_ _ | refine blk_drew ?_ | refine blk_alloc ?_ _)); exact BK207.out⟩, ⟨by (with_reducible repeat (first | refine blk_drewN ?_ _ | refine blk_drew ?_ | refine blk_alloc ?_ _)); refine blk_put (cs := #[.int .i64 t208, .string t209, .bool false]) ?_ 2 _ rfl; (with_reducible repeat (first | refine blk_drewN ?_ _ | refine blk_drew ?_ | refine blk_alloc ?_ _)); refine blk_put (cs := #[.int .i64 t208, .string (⟨#[]⟩ : ByteArray), .bool false]) ?_ 1 _ rfl; (with_reducible repeat (first | refine blk_drewN ?_ _ | refine blk_drew ?_ | refine blk_alloc ?_ _)); refine blk_put (cs := #[.int .i64 0, .string (⟨#[]⟩ : ByteArray), .bool false]) ?_ 0 _ rfl; (with_reducible repeat (first | refine blk_drewN ?_ _ | refine blk_drew ?_ | refine blk_alloc ?_ _)); exact BK217.out⟩, ⟨by repeat (first | (with_reducible first | exact HI201.out | apply IsS63.alloc | apply IsS63.drewN | apply IsS63.drew | apply IsS63.set_0 | apply IsS63.set_1 | apply IsS63.set_2 | apply IsS63.set_3 | refine IsS63.far ?_ NB201_190.out _ | apply IsS63.far (hne := NB201_190.out) | refine IsS63.far ?_ NB201_207.out _ | apply IsS63.far (hne := NB201_207.out) | refine IsS63.far ?_ NB201_217.out _ | apply IsS63.far (hne := NB201_217.out)) | exact HI201.out)⟩, ⟨by repeat (first | (with_reducible first | exact HB.out | apply below_alloc | apply pw_below_drewN | apply below_drew1 | refine below_set ?_ (IsS63.ge HI201.out) | refine below_set ?_ GE190.out | refine below_set ?_ GE207.out | refine below_set ?_ GE217.out) | exact HB.out)⟩⟩
                ·replace c55 := Bool.eq_false_iff.mpr c55
                 subst c55
                 have H1 : (if t212 = 0 then ((block_Blocks_Open.f t213 t214 t215 t216).bind fun bt218 => (bywashlaw11_BlockBetween.j3 k3 t193 ji35 y202 (y202.length : Int) x99_3 (bt218.1 != 1) a1_0 a1_1 a1_2 a1_3 bt218.2.1 bt218.2.2.1 bt218.2.2.2.1 bt218.2.2.2.2)) else (bywashlaw11_BlockBetween.j3 k3 t193 ji35 y202 (y202.length : Int) x99_3 true a1_0 a1_1 a1_2 a1_3 t213 t214 t215 t216)) = some r := by rw [if_neg (show ¬ (false = true) by decide)] at H; exact H
                 clear H
                 have H := H1
                 clear H1
                 by_cases c56 : t212 = 0
                 ·rw [if_pos c56] at H
                  have c56b0 : (t212 == 0) = true := beq_iff_eq.mpr c56
                  have c56b1 : (t212 != 0) = false := bne_eq_false_iff_eq.mpr c56
                  clear c56
                  (first | rw [c56b0] | (simp only [i64_w, i32_w]; rw [c56b0]) | skip)
                  replace H := Option.bind_eq_some_iff.mp H
                  obtain ⟨⟨t218, t219, t220, t221, t222⟩, A570, H⟩ := H
                  replace H : (bywashlaw11_BlockBetween.j3 k3 t193 ji35 y202 (y202.length : Int) x99_3 (t218 != 1) a1_0 a1_1 a1_2 a1_3 t219 t220 t221 t222) = some r := H
                  have A57 := Aside0.mk A570
                  clear A570
                  have H' := Aside0.mk H
                  clear H
                  go_wp2_with (first | (go_at_call 17; (with_reducible refine (block_Blocks_Open.calls g201 t213 t214 t215 t216 t218 t219 t220 t221 t222 w _ ?side1 ?side2 A57.out).mono ?_); (case side1 => repeat (first | (with_reducible first | exact HI201.out | apply IsS63.alloc | apply IsS63.drewN | apply IsS63.drew | apply IsS63.set_0 | apply IsS63.set_1 | apply IsS63.set_2 | apply IsS63.set_3 | refine IsS63.far ?_ NB201_190.out _ | apply IsS63.far (hne := NB201_190.out) | refine IsS63.far ?_ NB201_207.out _ | apply IsS63.far (hne := NB201_207.out) | refine IsS63.far ?_ NB201_217.out _ | apply IsS63.far (hne := NB201_217.out)) | exact HI201.out)); (case side2 => repeat (first | (with_reducible first | exact HB.out | apply below_alloc | apply pw_below_drewN | apply below_drew1 | refine below_set ?_ (IsS63.ge HI201.out) | refine below_set ?_ GE190.out | refine below_set ?_ GE207.out | refine below_set ?_ GE217.out) | exact HB.out)); rintro e w58 ⟨rfl, hi, hb, hk⟩; have n0_ := Aside0.mk (Kd.R_mono (Kd.R_keep (IsS63.apart (show IsS63 w _ g201 t213 t214 t215 t216 from by repeat (first | (with_reducible first | exact HI201.out | apply IsS63.alloc | apply IsS63.drewN | apply IsS63.drew | apply IsS63.set_0 | apply IsS63.set_1 | apply IsS63.set_2 | apply IsS63.set_3 | refine IsS63.far ?_ NB201_190.out _ | apply IsS63.far (hne := NB201_190.out) | refine IsS63.far ?_ NB201_207.out _ | apply IsS63.far (hne := NB201_207.out) | refine IsS63.far ?_ NB201_217.out _ | apply IsS63.far (hne := NB201_217.out)) | exact HI201.out)) (by (with_reducible repeat (first | apply Kd.R_alloc | apply Kd.R_drewN | apply Kd.R_drew)); exact (Kd.R_mono (Kd.R_far (p := ⟨gb217, 2, none⟩) (Kd.R_far (p := ⟨gb217, 1, none⟩) (Kd.R_far (p := ⟨gb217, 0, none⟩) (Kd.R_types HO_7.out BK217.out (by decide)) (fun _ hk => hk.2) (.int .i64 t208)) (fun _ hk => hk.2) (.string t209)) (fun _ hk => hk.2) (.bool t210)) (fun _ h_ => h_.1))) (by decide)) hk (fun _ h => h.2)) (fun _ h => h.1)); have n1_ := Aside0.mk (KeepBut.blk hk (g' := gb190) (o := .cells #[.int .i64 a1_0, .int .i64 a1_1, .int .i64 a1_2, .string a1_3] 39 (0, 0)) (by (with_reducible repeat (first | refine blk_drewN ?_ _ | refine blk_drew ?_ | refine blk_alloc ?_ _)); refine blk_far ?_ NB190_217.out _; (with_reducible repeat (first | refine blk_drewN ?_ _ | refine blk_drew ?_ | refine blk_alloc ?_ _)); refine blk_far ?_ NB190_217.out _; (with_reducible repeat (first | refine blk_drewN ?_ _ | refine blk_drew ?_ | refine blk_alloc ?_ _)); refine blk_far ?_ NB190_217.out _; (with_reducible repeat (first | refine blk_drewN ?_ _ | refine blk_drew ?_ | refine blk_alloc ?_ _)); exact BK190.out) NB190_201.out (by simp)); have n2_ := Aside0.mk (KeepBut.blk hk (g' := gb207) (o := .cells #[.int .i64 ((rd_T39 y202 x99_3).f0), .int .i64 ((rd_T39 y202 x99_3).f1), .int .i64 ((rd_T39 y202 x99_3).f2), .string ((rd_T39 y202 x99_3).f3)] 39 (0, 0)) (by (with_reducible repeat (first | refine blk_drewN ?_ _ | refine blk_drew ?_ | refine blk_alloc ?_ _)); refine blk_far ?_ NB207_217.out _; (with_reducible repeat (first | refine blk_drewN ?_ _ | refine blk_drew ?_ | refine blk_alloc ?_ _)); refine blk_far ?_ NB207_217.out _; (with_reducible repeat (first | refine blk_drewN ?_ _ | refine blk_drew ?_ | refine blk_alloc ?_ _)); refine blk_far ?_ NB207_217.out _; (with_reducible repeat (first | refine blk_drewN ?_ _ | refine blk_drew ?_ | refine blk_alloc ?_ _)); exact BK207.out) NB207_201.out (by simp)); have n3_ := Aside0.mk (KeepBut.blk hk (g' := gb217) (o := .cells #[.int .i64 t208, .string t209, .bool t210] 41 (0, 0)) (by (with_reducible repeat (first | refine blk_drewN ?_ _ | refine blk_drew ?_ | refine blk_alloc ?_ _)); refine blk_put (cs := #[.int .i64 t208, .string t209, .bool false]) ?_ 2 _ rfl; (with_reducible repeat (first | refine blk_drewN ?_ _ | refine blk_drew ?_ | refine blk_alloc ?_ _)); refine blk_put (cs := #[.int .i64 t208, .string (⟨#[]⟩ : ByteArray), .bool false]) ?_ 1 _ rfl; (with_reducible repeat (first | refine blk_drewN ?_ _ | refine blk_drew ?_ | refine blk_alloc ?_ _)); refine blk_put (cs := #[.int .i64 0, .string (⟨#[]⟩ : ByteArray), .bool false]) ?_ 0 _ rfl; (with_reducible repeat (first | refine blk_drewN ?_ _ | refine blk_drew ?_ | refine blk_alloc ?_ _)); exact BK217.out) NB217_201.out (by simp)); have n4_ := Aside0.mk (hb); have n5_ := Aside0.mk (hi); clear HO_7; clear BK190; clear BK207; clear BK217; clear HB; clear HI201; have HO_7 := n0_; have BK190 := n1_; have BK207 := n2_; have BK217 := n3_; have HB := n4_; have HI201 := n5_; clear n0_ n1_ n2_ n3_ n4_ n5_; (try clear hb); (try clear hb2); (try clear hk); (try clear hi)))
                  go_meet
                  case rel => exact ⟨_, ((t218 != 1)), (t219), (t220), (t221), (t222), (by first | rfl | (simp; done) | (simp [*]; done)), H', ⟨by have := HJ3.out; have := HJ17.out; have := HK3.out; first | omega | exact Nat.le_refl _⟩, ⟨by (with_reducible repeat (first | apply Kd.R_alloc | apply Kd.R_drewN | apply Kd.R_drew)); exact HO_7.out⟩, ⟨by (with_reducible repeat (first | refine blk_drewN ?_ _ | refine blk_drew ?_ | refine blk_alloc ?_ _)); exact BK190.out⟩, ⟨by (with_reducible repeat (first | refine blk_drewN ?_ _ | refine blk_drew ?_ | refine blk_alloc ?_ _)); exact BK207.out⟩, ⟨by (with_reducible repeat (first | refine blk_drewN ?_ _ | refine blk_drew ?_ | refine blk_alloc ?_ _)); exact BK217.out⟩, ⟨by repeat (first | (with_reducible first | exact HI201.out | apply IsS63.alloc | apply IsS63.drewN | apply IsS63.drew | apply IsS63.set_0 | apply IsS63.set_1 | apply IsS63.set_2 | apply IsS63.set_3 | refine IsS63.far ?_ NB201_190.out _ | apply IsS63.far (hne := NB201_190.out) | refine IsS63.far ?_ NB201_207.out _ | apply IsS63.far (hne := NB201_207.out) | refine IsS63.far ?_ NB201_217.out _ | apply IsS63.far (hne := NB201_217.out)) | exact HI201.out)⟩, ⟨by repeat (first | (with_reducible first | exact HB.out | apply below_alloc | apply pw_below_drewN | apply below_drew1 | refine below_set ?_ (IsS63.ge HI201.out) | refine below_set ?_ GE190.out | refine below_set ?_ GE207.out | refine below_set ?_ GE217.out) | exact HB.out)⟩⟩
                 ·rw [if_neg c56] at H
                  have c56b0 : (t212 == 0) = false := beq_eq_false_iff_ne.mpr c56
                  have c56b1 : (t212 != 0) = true := bne_iff_ne.mpr c56
                  (first | rw [c56b0] | (simp only [i64_w, i32_w]; rw [c56b0]) | skip)
                  have H' := Aside0.mk H
                  clear H
                  go_wp2
                  go_meet
                  case rel => exact ⟨_, (true), (t213), (t214), (t215), (t216), (by first | rfl | (simp; done) | (simp [*]; done)), H', ⟨by have := HJ3.out; have := HJ17.out; have := HK3.out; first | omega | exact Nat.le_refl _⟩, ⟨by (with_reducible repeat (first | apply Kd.R_alloc | apply Kd.R_drewN | apply Kd.R_drew)); exact Kd.R_mono (Kd.R_far (p := ⟨gb217, 2, none⟩) (Kd.R_far (p := ⟨gb217, 1, none⟩) (Kd.R_far (p := ⟨gb217, 0, none⟩) (Kd.R_types HO_7.out BK217.out (by decide)) (fun _ hk => hk.2) (.int .i64 t208)) (fun _ hk => hk.2) (.string t209)) (fun _ hk => hk.2) (.bool t210)) (fun _ hk => ⟨hk.1.1, hk.1.2⟩)⟩, ⟨by (with_reducible repeat (first | refine blk_drewN ?_ _ | refine blk_drew ?_ | refine blk_alloc ?_ _)); refine blk_far ?_ NB190_217.out _; (with_reducible repeat (first | refine blk_drewN ?_ _ | refine blk_drew ?_ | refine blk_alloc ?_ _)); refine blk_far ?_ NB190_217.out _; (with_reducible repeat (first | refine blk_drewN ?_ _ | refine blk_drew ?_ | refine blk_alloc ?_ _)); refine blk_far ?_ NB190_217.out _; (with_reducible repeat (first | refine blk_drewN ?_ _ | refine blk_drew ?_ | refine blk_alloc ?_ _)); exact BK190.out⟩, ⟨by (with_reducible repeat (first | refine blk_drewN ?_ _ | refine blk_drew ?_ | refine blk_alloc ?_ _)); refine blk_far ?_ NB207_217.out _; (with_reducible repeat (first | refine blk_drewN ?_ _ | refine blk_drew ?_ | refine blk_alloc ?_ _)); refine blk_far ?_ NB207_217.out _; (with_reducible repeat (first | refine blk_drewN ?_ _ | refine blk_drew ?_ | refine blk_alloc ?_ _)); refine blk_far ?_ NB207_217.out _; (with_reducible repeat (first | refine blk_drewN ?_ _ | refine blk_drew ?_ | refine blk_alloc ?_ _)); exact BK207.out⟩, ⟨by (with_reducible repeat (first | refine blk_drewN ?_ _ | refine blk_drew ?_ | refine blk_alloc ?_ _)); refine blk_put (cs := #[.int .i64 t208, .string t209, .bool false]) ?_ 2 _ rfl; (with_reducible repeat (first | refine blk_drewN ?_ _ | refine blk_drew ?_ | refine blk_alloc ?_ _)); refine blk_put (cs := #[.int .i64 t208, .string (⟨#[]⟩ : ByteArray), .bool false]) ?_ 1 _ rfl; (with_reducible repeat (first | refine blk_drewN ?_ _ | refine blk_drew ?_ | refine blk_alloc ?_ _)); refine blk_put (cs := #[.int .i64 0, .string (⟨#[]⟩ : ByteArray), .bool false]) ?_ 0 _ rfl; (with_reducible repeat (first | refine blk_drewN ?_ _ | refine blk_drew ?_ | refine blk_alloc ?_ _)); exact BK217.out⟩, ⟨by repeat (first | (with_reducible first | exact HI201.out | apply IsS63.alloc | apply IsS63.drewN | apply IsS63.drew | apply IsS63.set_0 | apply IsS63.set_1 | apply IsS63.set_2 | apply IsS63.set_3 | refine IsS63.far ?_ NB201_190.out _ | apply IsS63.far (hne := NB201_190.out) | refine IsS63.far ?_ NB201_207.out _ | apply IsS63.far (hne := NB201_207.out) | refine IsS63.far ?_ NB201_217.out _ | apply IsS63.far (hne := NB201_217.out)) | exact HI201.out)⟩, ⟨by repeat (first | (with_reducible first | exact HB.out | apply below_alloc | apply pw_below_drewN | apply below_drew1 | refine below_set ?_ (IsS63.ge HI201.out) | refine below_set ?_ GE190.out | refine below_set ?_ GE207.out | refine below_set ?_ GE217.out) | exact HB.out)⟩⟩
               case rest =>
                clear HC44
                try clear c1
                try clear c2
                try clear p2
                try clear q2
                try clear hx2
                try clear c3
                try clear q3
                try clear c4
                try clear c5
                try clear c6
                try clear c6b0
                try clear c6b1
                try clear p6
                try clear c7
                try clear c7b0
                try clear c7b1
                try clear c8
                try clear c8b0
                try clear c8b1
                try clear c10
                try clear c11
                try clear c13
                try clear c15
                try clear c16
                try clear p20
                try clear q20
                try clear hx20
                try clear c21
                try clear c22
                try clear c22b0
                try clear c22b1
                try clear c24
                try clear c24b0
                try clear c24b1
                try clear c26
                try clear c29
                try clear c31
                try clear c32
                try clear c34
                try clear c34b0
                try clear c34b1
                try clear c36
                try clear c36b0
                try clear c36b1
                try clear c37
                try clear c37b0
                try clear c37b1
                try clear q39
                try clear c40
                try clear c40b0
                try clear c41
                try clear c41b0
                try clear c42
                try clear c42b0
                try clear c46
                try clear c47
                try clear c51
                try clear c52
                try clear c53
                try clear c55
                try clear c56
                try clear c56b0
                try clear c56b1
                try clear hcz11_0
                try clear hcz11_1
                try clear hcz11_2
                try clear hcz11_3
                try clear hcz27_0
                try clear hcz27_1
                try clear hcz27_2
                try clear hcz27_3
                try clear hcz30_0
                try clear hcz30_1
                try clear hcz30_2
                try clear hcz30_3
                try clear hcz48_0
                try clear hcz48_1
                try clear hcz48_2
                try clear hcz48_3
                try clear hcz54_0
                try clear hcz54_1
                try clear hcz54_2
                try clear hcz9_0
                try clear hcz9_1
                try clear hcz9_2
                try clear hcz9_3
                try clear hfz11_0
                try clear hfz11_1
                try clear hfz11_2
                try clear hfz11_3
                try clear hfz27_0
                try clear hfz27_1
                try clear hfz27_2
                try clear hfz27_3
                try clear hfz30_0
                try clear hfz30_1
                try clear hfz30_2
                try clear hfz30_3
                try clear hfz48_0
                try clear hfz48_1
                try clear hfz48_2
                try clear hfz48_3
                try clear hfz54_0
                try clear hfz54_1
                try clear hfz54_2
                try clear hfz9_0
                try clear hfz9_1
                try clear hfz9_2
                try clear hfz9_3
                try clear hx206_0
                try clear hx206_1
                try clear hx206_2
                try clear hx206_3
                try clear p2
                try clear p206
                try clear p6
                try clear q206
                try clear q3
                try clear q39
                obtain ⟨kq, x119_43, x202000_43, x202001_43, x202002_43, x202003_43, rfl, HA, HJ43, HO_7, BK190, BK207, BK217, HI201, HB⟩ := hcut
                cases kq with
                | zero => exact absurd HA.out (by simp [bywashlaw11_BlockBetween.j3])
                | succ kj43 =>
                 have H := HA.out
                 clear HA
                 simp only [bywashlaw11_BlockBetween.j3] at H
                 by_cases c59 : x119_43 = true
                 ·subst c59
                  have H1 : (some false) = some r := by rw [if_pos rfl] at H; exact H
                  clear H
                  have H := H1
                  clear H1
                  obtain rfl := Option.some.inj H
                  go_wp2
                  go_ret
                  exact ⟨by first | rfl | (simp [errW_none, errW_some] <;> rfl) | (simp only [← hji35]; first | rfl | (simp [errW_none, errW_some] <;> rfl)) | (simp [*, errW_none, errW_some] <;> rfl), by repeat (first | (with_reducible first | exact HB.out | apply below_alloc | apply pw_below_drewN | apply below_drew1 | refine below_set ?_ (IsS63.ge HI201.out) | refine below_set ?_ GE190.out | refine below_set ?_ GE207.out | refine below_set ?_ GE217.out) | exact HB.out)⟩
                 ·replace c59 := Bool.eq_false_iff.mpr c59
                  subst c59
                  have H1 : (bywashlaw11_BlockBetween.l0 kj43 t193 ji35 y202 (y202.length : Int) (wrap64 (x99_3 + 1)) a1_0 a1_1 a1_2 a1_3 x202000_43 x202001_43 x202002_43 x202003_43) = some r := by rw [if_neg (show ¬ (false = true) by decide)] at H; exact H
                  clear H
                  have H := H1
                  clear H1
                  have H' := Aside0.mk H
                  clear H
                  go_wp2
                  go_roundg kj43
                  case measure => have := HJ3.out; have := HJ17.out; have := HK3.out; have := HJ43.out; omega
                  case rel => exact ⟨(wrap64 (x99_3 + 1)), (x202000_43), (x202001_43), (x202002_43), (x202003_43), (by first | rfl | (simp; done) | (simp [*]; done)), H', ⟨by have := HJ3.out; have := HJ17.out; have := HK3.out; have := HJ43.out; omega⟩, ⟨by (with_reducible repeat (first | apply Kd.R_alloc | apply Kd.R_drewN | apply Kd.R_drew)); exact Kd.R_mono HO_7.out (fun _ hk => hk.1)⟩, ⟨by (with_reducible repeat (first | refine blk_drewN ?_ _ | refine blk_drew ?_ | refine blk_alloc ?_ _)); exact BK190.out⟩, ⟨by repeat (first | (with_reducible first | exact HI201.out | apply IsS63.alloc | apply IsS63.drewN | apply IsS63.drew | apply IsS63.set_0 | apply IsS63.set_1 | apply IsS63.set_2 | apply IsS63.set_3 | refine IsS63.far ?_ NB201_190.out _ | apply IsS63.far (hne := NB201_190.out) | refine IsS63.far ?_ NB201_207.out _ | apply IsS63.far (hne := NB201_207.out) | refine IsS63.far ?_ NB201_217.out _ | apply IsS63.far (hne := NB201_217.out)) | exact HI201.out)⟩, ⟨by repeat (first | (with_reducible first | exact HB.out | apply below_alloc | apply pw_below_drewN | apply below_drew1 | refine below_set ?_ (IsS63.ge HI201.out) | refine below_set ?_ GE190.out | refine below_set ?_ GE207.out | refine below_set ?_ GE217.out) | exact HB.out)⟩⟩
              ·rw [if_neg c42] at H
               exact absurd H (by simp)
             ·rw [if_neg c41] at H
              exact absurd H (by simp)
            ·rw [if_neg c40] at H
             have c40b0 : decide (x99_3 < (y202.length : Int)) = false := decide_eq_false c40
             clear c40
             replace H := Option.bind_eq_some_iff.mp H
             obtain ⟨⟨t223, t224, t225, t226, t227, t228, t229, t230, t231⟩, A600, H⟩ := H
             replace H : ((bywashref1_Check.f k3 a1_0 a1_1 a1_2 a1_3).bind fun bt233 => (if bt233.2 = 0 then (bywashlaw11_BlockBetween.j4 k3 t193 ji35 t226 t227 11 t228 t229 t230 t231) else (bywashlaw11_BlockBetween.j4 k3 t193 ji35 t226 t227 1 t228 t229 t230 t231))) = some r := H
             have A60 := Aside0.mk A600
             clear A600
             replace H := Option.bind_eq_some_iff.mp H
             obtain ⟨⟨t233, t234⟩, A610, H⟩ := H
             replace H : (if t234 = 0 then (bywashlaw11_BlockBetween.j4 k3 t193 ji35 t226 t227 11 t228 t229 t230 t231) else (bywashlaw11_BlockBetween.j4 k3 t193 ji35 t226 t227 1 t228 t229 t230 t231)) = some r := H
             have A61 := Aside0.mk A610
             clear A610
             have HC62 := Aside0.mk H
             clear H
             have hnb63 := NB190_201.out
             have hnc63 := NB201_190.out
             have hcz64_0 : wr.cell? ⟨gb190, 0, none⟩ = some (.int .i64 a1_0) := (blk_cell BK190.out 0).trans rfl
             have hcz64_1 : wr.cell? ⟨gb190, 1, none⟩ = some (.int .i64 a1_1) := (blk_cell BK190.out 1).trans rfl
             have hcz64_2 : wr.cell? ⟨gb190, 2, none⟩ = some (.int .i64 a1_2) := (blk_cell BK190.out 2).trans rfl
             have hcz64_3 : wr.cell? ⟨gb190, 3, none⟩ = some (.string a1_3) := (blk_cell BK190.out 3).trans rfl
             have hfz64_0 := blk_frozen BK190.out 0
             have hfz64_1 := blk_frozen BK190.out 1
             have hfz64_2 := blk_frozen BK190.out 2
             have hfz64_3 := blk_frozen BK190.out 3
             go_upto_if 134 with (first | ((with_reducible refine gate_callee (f := 16) rfl ?_); refine goesL_ (some 124) rfl rfl Try.func16 (by kernel_rfl) rfl #[.pointer (some ⟨g201, 0, none⟩), .agg #[.int .i64 a1_0, .int .i64 a1_1, .int .i64 a1_2, .string a1_3]] rfl (by (try simp only [List.map_toArray, List.map_cons, List.map_nil]); first | done | rfl | (simp only [List.length_drop, List.length_take]; rfl)) ?_; (with_reducible refine (block_Blocks_Take.calls k3 g201 x202000_3 x202001_3 x202002_3 x202003_3 a1_0 a1_1 a1_2 a1_3 t223 t224 t225 t226 t227 t228 t229 t230 t231 w _ ?side1 ?side2 A60.out).mono ?_); (case side1 => repeat (first | (with_reducible first | exact HI201.out | apply IsS63.alloc | apply IsS63.drewN | apply IsS63.drew | apply IsS63.set_0 | apply IsS63.set_1 | apply IsS63.set_2 | apply IsS63.set_3 | refine IsS63.far ?_ NB201_190.out _ | apply IsS63.far (hne := NB201_190.out)) | exact HI201.out)); (case side2 => repeat (first | (with_reducible first | exact HB.out | apply below_alloc | apply pw_below_drewN | apply below_drew1 | refine below_set ?_ (IsS63.ge HI201.out) | refine below_set ?_ GE190.out) | exact HB.out)); rintro e w65 ⟨rfl, hi, hb, hk⟩; refine ⟨_, rfl, ?_⟩; have n0_ := Aside0.mk (Kd.R_mono (Kd.R_keep (IsS63.apart (show IsS63 w _ g201 x202000_3 x202001_3 x202002_3 x202003_3 from by repeat (first | (with_reducible first | exact HI201.out | apply IsS63.alloc | apply IsS63.drewN | apply IsS63.drew | apply IsS63.set_0 | apply IsS63.set_1 | apply IsS63.set_2 | apply IsS63.set_3 | refine IsS63.far ?_ NB201_190.out _ | apply IsS63.far (hne := NB201_190.out)) | exact HI201.out)) (by (with_reducible repeat (first | apply Kd.R_alloc | apply Kd.R_drewN | apply Kd.R_drew)); exact HO_7.out) (by decide)) hk (fun _ h => h.2)) (fun _ h => h.1)); have n1_ := Aside0.mk (KeepBut.blk hk (g' := gb190) (o := .cells #[.int .i64 a1_0, .int .i64 a1_1, .int .i64 a1_2, .string a1_3] 39 (0, 0)) (by (with_reducible repeat (first | refine blk_drewN ?_ _ | refine blk_drew ?_ | refine blk_alloc ?_ _)); exact BK190.out) NB190_201.out (by simp)); have n2_ := Aside0.mk (hb); have n3_ := Aside0.mk (hi); clear HO_7; clear BK190; clear HB; clear HI201; have HO_7 := n0_; have BK190 := n1_; have HB := n2_; have HI201 := n3_; clear n0_ n1_ n2_ n3_; (try clear hb); (try clear hb2); (try clear hk); (try clear hi)) | ((with_reducible refine gate_dst (N := 16) rfl ?_); (try (refine gate_guard (by rfl) ?_; dsimp only)); refine box_event ?hg (N := 16) ?hd (cs := #[.int .i64 0, .string (⟨#[]⟩ : ByteArray), .bool false]) (t := 41) ?hr ?_; (case hd => rfl); (case hg => rfl); (case hr => first | (go_simp; done) | (go_simp; rfl)); intro gb232 hg w66 hbox hb; have n0_ := Aside0.mk (Kd.R_below (by (with_reducible repeat (first | apply Kd.R_alloc | apply Kd.R_drewN | apply Kd.R_drew)); exact HO_7.out) hb); have n1_ := Aside0.mk (blk_below (g := gb190) (o := .cells #[.int .i64 a1_0, .int .i64 a1_1, .int .i64 a1_2, .string a1_3] 39 (0, 0)) (by (with_reducible repeat (first | refine blk_drewN ?_ _ | refine blk_drew ?_ | refine blk_alloc ?_ _)); exact BK190.out) hb); have n2_ := Aside0.mk (IsS63.below (by repeat (first | (with_reducible first | exact HI201.out | apply IsS63.alloc | apply IsS63.drewN | apply IsS63.drew | apply IsS63.set_0 | apply IsS63.set_1 | apply IsS63.set_2 | apply IsS63.set_3 | refine IsS63.far ?_ NB201_190.out _ | apply IsS63.far (hne := NB201_190.out)) | exact HI201.out)) hb); have n3_ := Aside0.mk (below_step (by repeat (first | (with_reducible first | exact HB.out | apply below_alloc | apply pw_below_drewN | apply below_drew1 | refine below_set ?_ (IsS63.ge HI201.out) | refine below_set ?_ GE190.out) | exact HB.out)) hb); have n4_ := Aside0.mk (hbox); have n5_ := Aside0.mk ((by rw [hg]; exact (below_size (by repeat (first | (with_reducible first | exact HB.out | apply below_alloc | apply pw_below_drewN | apply below_drew1 | refine below_set ?_ (IsS63.ge HI201.out) | refine below_set ?_ GE190.out) | exact HB.out))) : w.heap.size ≤ gb232)); have n6_ := Aside0.mk ((by rw [hg]; exact (below_size (by repeat (first | (with_reducible first | exact HB.out | apply below_alloc | apply pw_below_drewN | apply below_drew1 | refine below_set ?_ (IsS63.ge HI201.out) | refine below_set ?_ GE190.out) | exact HB.out))) : w.heap.size ≤ gb232)); have n7_ := Aside0.mk ((by rw [hg]; exact Nat.ne_of_lt (blk_lt (g := gb190) (o := .cells #[.int .i64 a1_0, .int .i64 a1_1, .int .i64 a1_2, .string a1_3] 39 (0, 0)) (by (with_reducible repeat (first | refine blk_drewN ?_ _ | refine blk_drew ?_ | refine blk_alloc ?_ _)); exact BK190.out)) : gb190 ≠ gb232)); have n8_ := Aside0.mk ((by rw [hg]; exact Nat.ne_of_gt (blk_lt (g := gb190) (o := .cells #[.int .i64 a1_0, .int .i64 a1_1, .int .i64 a1_2, .string a1_3] 39 (0, 0)) (by (with_reducible repeat (first | refine blk_drewN ?_ _ | refine blk_drew ?_ | refine blk_alloc ?_ _)); exact BK190.out)) : gb232 ≠ gb190)); have n9_ := Aside0.mk ((by rw [hg]; exact Nat.ne_of_lt (IsS63.lt (show IsS63 w _ g201 t228 t229 t230 t231 from by repeat (first | (with_reducible first | exact HI201.out | apply IsS63.alloc | apply IsS63.drewN | apply IsS63.drew | apply IsS63.set_0 | apply IsS63.set_1 | apply IsS63.set_2 | apply IsS63.set_3 | refine IsS63.far ?_ NB201_190.out _ | apply IsS63.far (hne := NB201_190.out)) | exact HI201.out))) : g201 ≠ gb232)); have n10_ := Aside0.mk ((by rw [hg]; exact Nat.ne_of_gt (IsS63.lt (show IsS63 w _ g201 t228 t229 t230 t231 from by repeat (first | (with_reducible first | exact HI201.out | apply IsS63.alloc | apply IsS63.drewN | apply IsS63.drew | apply IsS63.set_0 | apply IsS63.set_1 | apply IsS63.set_2 | apply IsS63.set_3 | refine IsS63.far ?_ NB201_190.out _ | apply IsS63.far (hne := NB201_190.out)) | exact HI201.out))) : gb232 ≠ g201)); clear HO_7; clear BK190; clear HI201; clear HB; have HO_7 := n0_; have BK190 := n1_; have HI201 := n2_; have HB := n3_; have BK232 := n4_; have GW232 := n5_; have GE232 := n6_; have NB190_232 := n7_; have NB232_190 := n8_; have NB201_232 := n9_; have NB232_201 := n10_; clear n0_ n1_ n2_ n3_ n4_ n5_ n6_ n7_ n8_ n9_ n10_; clear hb hbox hg; have hnb67 := NB232_190.out; have hnc67 := NB190_232.out; have hnb68 := NB232_201.out; have hnc68 := NB201_232.out; have hcz69_0 : w66.cell? ⟨gb232, 0, none⟩ = some (.int .i64 0) := (blk_cell BK232.out 0).trans rfl; have hcz69_1 : w66.cell? ⟨gb232, 1, none⟩ = some (.string (⟨#[]⟩ : ByteArray)) := (blk_cell BK232.out 1).trans rfl; have hcz69_2 : w66.cell? ⟨gb232, 2, none⟩ = some (.bool false) := (blk_cell BK232.out 2).trans rfl; have hfz69_0 := blk_frozen BK232.out 0; have hfz69_1 := blk_frozen BK232.out 1; have hfz69_2 := blk_frozen BK232.out 2; have hcz70_0 : w66.cell? ⟨gb190, 0, none⟩ = some (.int .i64 a1_0) := (blk_cell BK190.out 0).trans rfl; have hcz70_1 : w66.cell? ⟨gb190, 1, none⟩ = some (.int .i64 a1_1) := (blk_cell BK190.out 1).trans rfl; have hcz70_2 : w66.cell? ⟨gb190, 2, none⟩ = some (.int .i64 a1_2) := (blk_cell BK190.out 2).trans rfl; have hcz70_3 : w66.cell? ⟨gb190, 3, none⟩ = some (.string a1_3) := (blk_cell BK190.out 3).trans rfl; have hfz70_0 := blk_frozen BK190.out 0; have hfz70_1 := blk_frozen BK190.out 1; have hfz70_2 := blk_frozen BK190.out 2; have hfz70_3 := blk_frozen BK190.out 3) | ((with_reducible refine gate_callee (f := 20) rfl ?_); refine goesL_ (some 130) rfl rfl Try.func20 (by kernel_rfl) rfl #[.agg #[.int .i64 a1_0, .int .i64 a1_1, .int .i64 a1_2, .string a1_3]] rfl (by (try simp only [List.map_toArray, List.map_cons, List.map_nil]); first | done | rfl | (simp only [List.length_drop, List.length_take]; rfl)) ?_; (with_reducible refine (bywashref1_Check.calls k3 a1_0 a1_1 a1_2 a1_3 t233 t234 _ A61.out).mono ?_); rintro e w71 ⟨rfl, hb⟩; refine ⟨_, rfl, ?_⟩; have n0_ := Aside0.mk (Kd.R_below (by (with_reducible repeat (first | apply Kd.R_alloc | apply Kd.R_drewN | apply Kd.R_drew)); exact (Kd.R_mono (Kd.R_far (p := ⟨gb232, 2, none⟩) (Kd.R_far (p := ⟨gb232, 1, none⟩) (Kd.R_far (p := ⟨gb232, 0, none⟩) (Kd.R_types HO_7.out BK232.out (by decide)) (fun _ hk => hk.2) (.int .i64 t223)) (fun _ hk => hk.2) (.string t224)) (fun _ hk => hk.2) (.bool t225)) (fun _ h_ => h_.1))) hb); have n1_ := Aside0.mk (blk_below (g := gb190) (o := .cells #[.int .i64 a1_0, .int .i64 a1_1, .int .i64 a1_2, .string a1_3] 39 (0, 0)) (by (with_reducible repeat (first | refine blk_drewN ?_ _ | refine blk_drew ?_ | refine blk_alloc ?_ _)); refine blk_far ?_ NB190_232.out _; (with_reducible repeat (first | refine blk_drewN ?_ _ | refine blk_drew ?_ | refine blk_alloc ?_ _)); refine blk_far ?_ NB190_232.out _; (with_reducible repeat (first | refine blk_drewN ?_ _ | refine blk_drew ?_ | refine blk_alloc ?_ _)); refine blk_far ?_ NB190_232.out _; (with_reducible repeat (first | refine blk_drewN ?_ _ | refine blk_drew ?_ | refine blk_alloc ?_ _)); exact BK190.out) hb); have n2_ := Aside0.mk (IsS63.below (show IsS63 w (((w66.setCell ⟨gb232, 0, none⟩ (.int .i64 t223)).setCell ⟨gb232, 1, none⟩ (.string t224)).setCell ⟨gb232, 2, none⟩ (.bool t225)) g201 t228 t229 t230 t231 from by repeat (first | (with_reducible first | exact HI201.out | apply IsS63.alloc | apply IsS63.drewN | apply IsS63.drew | apply IsS63.set_0 | apply IsS63.set_1 | apply IsS63.set_2 | apply IsS63.set_3 | refine IsS63.far ?_ NB201_190.out _ | apply IsS63.far (hne := NB201_190.out) | refine IsS63.far ?_ NB201_232.out _ | apply IsS63.far (hne := NB201_232.out)) | exact HI201.out)) hb); have n3_ := Aside0.mk (blk_below (g := gb232) (o := .cells #[.int .i64 t223, .string t224, .bool t225] 41 (0, 0)) (by (with_reducible repeat (first | refine blk_drewN ?_ _ | refine blk_drew ?_ | refine blk_alloc ?_ _)); refine blk_put (cs := #[.int .i64 t223, .string t224, .bool false]) ?_ 2 _ rfl; (with_reducible repeat (first | refine blk_drewN ?_ _ | refine blk_drew ?_ | refine blk_alloc ?_ _)); refine blk_put (cs := #[.int .i64 t223, .string (⟨#[]⟩ : ByteArray), .bool false]) ?_ 1 _ rfl; (with_reducible repeat (first | refine blk_drewN ?_ _ | refine blk_drew ?_ | refine blk_alloc ?_ _)); refine blk_put (cs := #[.int .i64 0, .string (⟨#[]⟩ : ByteArray), .bool false]) ?_ 0 _ rfl; (with_reducible repeat (first | refine blk_drewN ?_ _ | refine blk_drew ?_ | refine blk_alloc ?_ _)); exact BK232.out) hb); have n4_ := Aside0.mk (below_step (by repeat (first | (with_reducible first | exact HB.out | apply below_alloc | apply pw_below_drewN | apply below_drew1 | refine below_set ?_ (IsS63.ge HI201.out) | refine below_set ?_ GE190.out | refine below_set ?_ GE232.out) | exact HB.out)) hb); clear HO_7; clear BK190; clear HI201; clear BK232; clear HB; have HO_7 := n0_; have BK190 := n1_; have HI201 := n2_; have BK232 := n3_; have HB := n4_; clear n0_ n1_ n2_ n3_ n4_; (try clear hb); (try clear hb2); (try clear hk); (try clear hi)))
             (try simp only [Act.put, List.setIfInBounds_toArray, List.set_cons_zero, List.set_cons_succ])
             go_cut [21] (fun v21 wc => ∃ (kq : Nat) (x21_61 : Int), v21 = .int .i64 x21_61 ∧ Aside0 (bywashlaw11_BlockBetween.j4 kq t193 ji35 t226 t227 x21_61 t228 t229 t230 t231 = some r) ∧ Aside0 (kq ≤ k3) ∧ Aside0 (Kd.R k39 39 wc w.heap.size (fun k_ => k_ ≠ gb190) (.slice Ao38 t193.length co38) t193) ∧ Aside0 (wc.heap[gb190]? = some (.cells #[.int .i64 a1_0, .int .i64 a1_1, .int .i64 a1_2, .string a1_3] 39 (0, 0))) ∧ Aside0 (wc.heap[gb232]? = some (.cells #[.int .i64 t223, .string t224, .bool t225] 41 (0, 0))) ∧ Aside0 (IsS63 w wc g201 t228 t229 t230 t231) ∧ Aside0 (Below w.heap.size w wc))
             case first =>
              have H := HC62.out
              clear HC62
              by_cases c72 : t234 = 0
              ·rw [if_pos c72] at H
               have c72b0 : (t234 == 0) = true := beq_iff_eq.mpr c72
               have c72b1 : (t234 != 0) = false := bne_eq_false_iff_eq.mpr c72
               clear c72
               (first | rw [c72b0] | (simp only [i64_w, i32_w]; rw [c72b0]) | skip)
               have H' := Aside0.mk H
               clear H
               go_wp2
               go_meet
               case rel => exact ⟨_, (11), (by first | rfl | (simp; done) | (simp [*]; done)), H', ⟨by have := HJ3.out; have := HJ17.out; have := HK3.out; first | omega | exact Nat.le_refl _⟩, ⟨by (with_reducible repeat (first | apply Kd.R_alloc | apply Kd.R_drewN | apply Kd.R_drew)); exact HO_7.out⟩, ⟨by (with_reducible repeat (first | refine blk_drewN ?_ _ | refine blk_drew ?_ | refine blk_alloc ?_ _)); exact BK190.out⟩, ⟨by (with_reducible repeat (first | refine blk_drewN ?_ _ | refine blk_drew ?_ | refine blk_alloc ?_ _)); exact BK232.out⟩, ⟨by repeat (first | (with_reducible first | exact HI201.out | apply IsS63.alloc | apply IsS63.drewN | apply IsS63.drew | apply IsS63.set_0 | apply IsS63.set_1 | apply IsS63.set_2 | apply IsS63.set_3 | refine IsS63.far ?_ NB201_190.out _ | apply IsS63.far (hne := NB201_190.out) | refine IsS63.far ?_ NB201_232.out _ | apply IsS63.far (hne := NB201_232.out)) | exact HI201.out)⟩, ⟨by repeat (first | (with_reducible first | exact HB.out | apply below_alloc | apply pw_below_drewN | apply below_drew1 | refine below_set ?_ (IsS63.ge HI201.out) | refine below_set ?_ GE190.out | refine below_set ?_ GE232.out) | exact HB.out)⟩⟩
              ·rw [if_neg c72] at H
               have c72b0 : (t234 == 0) = false := beq_eq_false_iff_ne.mpr c72
               have c72b1 : (t234 != 0) = true := bne_iff_ne.mpr c72
               (first | rw [c72b0] | (simp only [i64_w, i32_w]; rw [c72b0]) | skip)
               have H' := Aside0.mk H
               clear H
               go_wp2
               go_meet
               case rel => exact ⟨_, (1), (by first | rfl | (simp; done) | (simp [*]; done)), H', ⟨by have := HJ3.out; have := HJ17.out; have := HK3.out; first | omega | exact Nat.le_refl _⟩, ⟨by (with_reducible repeat (first | apply Kd.R_alloc | apply Kd.R_drewN | apply Kd.R_drew)); exact HO_7.out⟩, ⟨by (with_reducible repeat (first | refine blk_drewN ?_ _ | refine blk_drew ?_ | refine blk_alloc ?_ _)); exact BK190.out⟩, ⟨by (with_reducible repeat (first | refine blk_drewN ?_ _ | refine blk_drew ?_ | refine blk_alloc ?_ _)); exact BK232.out⟩, ⟨by repeat (first | (with_reducible first | exact HI201.out | apply IsS63.alloc | apply IsS63.drewN | apply IsS63.drew | apply IsS63.set_0 | apply IsS63.set_1 | apply IsS63.set_2 | apply IsS63.set_3 | refine IsS63.far ?_ NB201_190.out _ | apply IsS63.far (hne := NB201_190.out) | refine IsS63.far ?_ NB201_232.out _ | apply IsS63.far (hne := NB201_232.out)) | exact HI201.out)⟩, ⟨by repeat (first | (with_reducible first | exact HB.out | apply below_alloc | apply pw_below_drewN | apply below_drew1 | refine below_set ?_ (IsS63.ge HI201.out) | refine below_set ?_ GE190.out | refine below_set ?_ GE232.out) | exact HB.out)⟩⟩
             case rest =>
              clear HC62
              try clear c1
              try clear c2
              try clear p2
              try clear q2
              try clear hx2
              try clear c3
              try clear q3
              try clear c4
              try clear c5
              try clear c6
              try clear c6b0
              try clear c6b1
              try clear p6
              try clear c7
              try clear c7b0
              try clear c7b1
              try clear c8
              try clear c8b0
              try clear c8b1
              try clear c10
              try clear c11
              try clear c13
              try clear c15
              try clear c16
              try clear c20
              try clear p20
              try clear q20
              try clear hx20
              try clear c21
              try clear c22
              try clear c22b0
              try clear c22b1
              try clear c24
              try clear c24b0
              try clear c24b1
              try clear c26
              try clear c29
              try clear c31
              try clear c32
              try clear c34
              try clear c34b0
              try clear c34b1
              try clear c36
              try clear c36b0
              try clear c36b1
              try clear c37
              try clear c37b0
              try clear c37b1
              try clear q39
              try clear c40
              try clear c40b0
              try clear c41
              try clear c41b0
              try clear c42
              try clear c42b0
              try clear c46
              try clear c47
              try clear c51
              try clear c52
              try clear c53
              try clear c55
              try clear c56
              try clear c56b0
              try clear c56b1
              try clear c59
              try clear c63
              try clear p64
              try clear c67
              try clear c68
              try clear c72
              try clear c72b0
              try clear c72b1
              try clear hcz11_0
              try clear hcz11_1
              try clear hcz11_2
              try clear hcz11_3
              try clear hcz27_0
              try clear hcz27_1
              try clear hcz27_2
              try clear hcz27_3
              try clear hcz30_0
              try clear hcz30_1
              try clear hcz30_2
              try clear hcz30_3
              try clear hcz48_0
              try clear hcz48_1
              try clear hcz48_2
              try clear hcz48_3
              try clear hcz54_0
              try clear hcz54_1
              try clear hcz54_2
              try clear hcz64_0
              try clear hcz64_1
              try clear hcz64_2
              try clear hcz64_3
              try clear hcz69_0
              try clear hcz69_1
              try clear hcz69_2
              try clear hcz70_0
              try clear hcz70_1
              try clear hcz70_2
              try clear hcz70_3
              try clear hcz9_0
              try clear hcz9_1
              try clear hcz9_2
              try clear hcz9_3
              try clear hfz11_0
              try clear hfz11_1
              try clear hfz11_2
              try clear hfz11_3
              try clear hfz27_0
              try clear hfz27_1
              try clear hfz27_2
              try clear hfz27_3
              try clear hfz30_0
              try clear hfz30_1
              try clear hfz30_2
              try clear hfz30_3
              try clear hfz48_0
              try clear hfz48_1
              try clear hfz48_2
              try clear hfz48_3
              try clear hfz54_0
              try clear hfz54_1
              try clear hfz54_2
              try clear hfz64_0
              try clear hfz64_1
              try clear hfz64_2
              try clear hfz64_3
              try clear hfz69_0
              try clear hfz69_1
              try clear hfz69_2
              try clear hfz70_0
              try clear hfz70_1
              try clear hfz70_2
              try clear hfz70_3
              try clear hfz9_0
              try clear hfz9_1
              try clear hfz9_2
              try clear hfz9_3
              try clear hx206_0
              try clear hx206_1
              try clear hx206_2
              try clear hx206_3
              try clear p2
              try clear p20
              try clear p206
              try clear p6
              try clear q2
              try clear q20
              try clear q206
              try clear q3
              try clear q39
              obtain ⟨kq, x21_61, rfl, HA, HJ61, HO_7, BK190, BK232, HI201, HB⟩ := hcut
              cases kq with
              | zero => exact absurd HA.out (by simp [bywashlaw11_BlockBetween.j4])
              | succ kj61 =>
               have H := HA.out
               clear HA
               simp only [bywashlaw11_BlockBetween.j4] at H
               by_cases c73 : 0 ≤ ji35
               ·rw [if_pos c73] at H
                have c73b0 : decide (0 ≤ ji35) = true := decide_eq_true c73
                clear c73
                by_cases c74 : ji35 < (t193.length : Int)
                ·rw [if_pos c74] at H
                 have c74b0 : decide (ji35 < (t193.length : Int)) = true := decide_eq_true c74
                 clear c74
                 replace H := Option.bind_eq_some_iff.mp H
                 obtain ⟨⟨t236, t237, t238, t239, t240, t241, t242, t243, t244⟩, A750, H⟩ := H
                 replace H : (if t226 = true then (some false) else (if t227 = x21_61 then (if t239 = true then (some false) else (if t240 = 11 then ((block_Blocks_Open.f t241 t242 t243 t244).bind fun bt246 => (some (bt246.1 == 0))) else (some false))) else (some false))) = some r := H
                 have A75 := Aside0.mk A750
                 clear A750
                 by_cases c76 : t226 = true
                 ·subst c76
                  have H1 : (some false) = some r := by rw [if_pos rfl] at H; exact H
                  clear H
                  have H := H1
                  clear H1
                  obtain rfl := Option.some.inj H
                  have p235 : 0 ≤ (ji35 : Int) := of_decide_eq_true (by first | (with_reducible assumption) | assumption)
                  have q235 : ji35 < (t193.length : Int) := of_decide_eq_true (by first | (with_reducible assumption) | assumption)
                  obtain ⟨ad235, e235, hx235_0, hx235_1, hx235_2, hx235_3⟩ := at_T39 (Kd.R_reads' HO_7.out).2.2 ji35 p235 q235
                  cases e235
                  replace p235 := eq_true p235
                  replace q235 := eq_true q235
                  go_wp2_with (first | ((with_reducible refine gate_callee (f := 16) rfl ?_); refine goesL_ (some 141) rfl rfl Try.func16 (by kernel_rfl) rfl #[.pointer (some ⟨g201, 0, none⟩), .agg #[.int .i64 ((rd_T39 t193 ji35).f0), .int .i64 ((rd_T39 t193 ji35).f1), .int .i64 ((rd_T39 t193 ji35).f2), .string ((rd_T39 t193 ji35).f3)]] rfl (by (try simp only [List.map_toArray, List.map_cons, List.map_nil]); first | done | (simp only [hji35]; rfl) | rfl | (simp only [List.length_drop, List.length_take]; rfl)) ?_; (with_reducible refine (block_Blocks_Take.calls kj61 g201 t228 t229 t230 t231 ((rd_T39 t193 ji35).f0) ((rd_T39 t193 ji35).f1) ((rd_T39 t193 ji35).f2) ((rd_T39 t193 ji35).f3) t236 t237 t238 t239 t240 t241 t242 t243 t244 w _ ?side1 ?side2 A75.out).mono ?_); (case side1 => repeat (first | (with_reducible first | exact HI201.out | apply IsS63.alloc | apply IsS63.drewN | apply IsS63.drew | apply IsS63.set_0 | apply IsS63.set_1 | apply IsS63.set_2 | apply IsS63.set_3 | refine IsS63.far ?_ NB201_190.out _ | apply IsS63.far (hne := NB201_190.out) | refine IsS63.far ?_ NB201_232.out _ | apply IsS63.far (hne := NB201_232.out)) | exact HI201.out)); (case side2 => repeat (first | (with_reducible first | exact HB.out | apply below_alloc | apply pw_below_drewN | apply below_drew1 | refine below_set ?_ (IsS63.ge HI201.out) | refine below_set ?_ GE190.out | refine below_set ?_ GE232.out) | exact HB.out)); rintro e w77 ⟨rfl, hi, hb, hk⟩; refine ⟨_, rfl, ?_⟩; have n0_ := Aside0.mk (Kd.R_mono (Kd.R_keep (IsS63.apart (show IsS63 w _ g201 t228 t229 t230 t231 from by repeat (first | (with_reducible first | exact HI201.out | apply IsS63.alloc | apply IsS63.drewN | apply IsS63.drew | apply IsS63.set_0 | apply IsS63.set_1 | apply IsS63.set_2 | apply IsS63.set_3 | refine IsS63.far ?_ NB201_190.out _ | apply IsS63.far (hne := NB201_190.out) | refine IsS63.far ?_ NB201_232.out _ | apply IsS63.far (hne := NB201_232.out)) | exact HI201.out)) (by (with_reducible repeat (first | apply Kd.R_alloc | apply Kd.R_drewN | apply Kd.R_drew)); exact HO_7.out) (by decide)) hk (fun _ h => h.2)) (fun _ h => h.1)); have n1_ := Aside0.mk (KeepBut.blk hk (g' := gb190) (o := .cells #[.int .i64 a1_0, .int .i64 a1_1, .int .i64 a1_2, .string a1_3] 39 (0, 0)) (by (with_reducible repeat (first | refine blk_drewN ?_ _ | refine blk_drew ?_ | refine blk_alloc ?_ _)); exact BK190.out) NB190_201.out (by simp)); have n2_ := Aside0.mk (KeepBut.blk hk (g' := gb232) (o := .cells #[.int .i64 t223, .string t224, .bool t225] 41 (0, 0)) (by (with_reducible repeat (first | refine blk_drewN ?_ _ | refine blk_drew ?_ | refine blk_alloc ?_ _)); exact BK232.out) NB232_201.out (by simp)); have n3_ := Aside0.mk (hb); have n4_ := Aside0.mk (hi); clear HO_7; clear BK190; clear BK232; clear HB; clear HI201; have HO_7 := n0_; have BK190 := n1_; have BK232 := n2_; have HB := n3_; have HI201 := n4_; clear n0_ n1_ n2_ n3_ n4_; (try clear hb); (try clear hb2); (try clear hk); (try clear hi)) | ((with_reducible refine gate_dst (N := 22) rfl ?_); (try (refine gate_guard (by rfl) ?_; dsimp only)); refine box_event ?hg (N := 22) ?hd (cs := #[.int .i64 0, .string (⟨#[]⟩ : ByteArray), .bool false]) (t := 41) ?hr ?_; (case hd => rfl); (case hg => rfl); (case hr => first | (go_simp; done) | (go_simp; rfl)); intro gb245 hg w78 hbox hb; have n0_ := Aside0.mk (Kd.R_below (by (with_reducible repeat (first | apply Kd.R_alloc | apply Kd.R_drewN | apply Kd.R_drew)); exact HO_7.out) hb); have n1_ := Aside0.mk (blk_below (g := gb190) (o := .cells #[.int .i64 a1_0, .int .i64 a1_1, .int .i64 a1_2, .string a1_3] 39 (0, 0)) (by (with_reducible repeat (first | refine blk_drewN ?_ _ | refine blk_drew ?_ | refine blk_alloc ?_ _)); exact BK190.out) hb); have n2_ := Aside0.mk (blk_below (g := gb232) (o := .cells #[.int .i64 t223, .string t224, .bool t225] 41 (0, 0)) (by (with_reducible repeat (first | refine blk_drewN ?_ _ | refine blk_drew ?_ | refine blk_alloc ?_ _)); exact BK232.out) hb); have n3_ := Aside0.mk (IsS63.below (by repeat (first | (with_reducible first | exact HI201.out | apply IsS63.alloc | apply IsS63.drewN | apply IsS63.drew | apply IsS63.set_0 | apply IsS63.set_1 | apply IsS63.set_2 | apply IsS63.set_3 | refine IsS63.far ?_ NB201_190.out _ | apply IsS63.far (hne := NB201_190.out) | refine IsS63.far ?_ NB201_232.out _ | apply IsS63.far (hne := NB201_232.out)) | exact HI201.out)) hb); have n4_ := Aside0.mk (below_step (by repeat (first | (with_reducible first | exact HB.out | apply below_alloc | apply pw_below_drewN | apply below_drew1 | refine below_set ?_ (IsS63.ge HI201.out) | refine below_set ?_ GE190.out | refine below_set ?_ GE232.out) | exact HB.out)) hb); have n5_ := Aside0.mk (hbox); have n6_ := Aside0.mk ((by rw [hg]; exact (below_size (by repeat (first | (with_reducible first | exact HB.out | apply below_alloc | apply pw_below_drewN | apply below_drew1 | refine below_set ?_ (IsS63.ge HI201.out) | refine below_set ?_ GE190.out | refine below_set ?_ GE232.out) | exact HB.out))) : w.heap.size ≤ gb245)); have n7_ := Aside0.mk ((by rw [hg]; exact (below_size (by repeat (first | (with_reducible first | exact HB.out | apply below_alloc | apply pw_below_drewN | apply below_drew1 | refine below_set ?_ (IsS63.ge HI201.out) | refine below_set ?_ GE190.out | refine below_set ?_ GE232.out) | exact HB.out))) : w.heap.size ≤ gb245)); have n8_ := Aside0.mk ((by rw [hg]; exact Nat.ne_of_lt (blk_lt (g := gb190) (o := .cells #[.int .i64 a1_0, .int .i64 a1_1, .int .i64 a1_2, .string a1_3] 39 (0, 0)) (by (with_reducible repeat (first | refine blk_drewN ?_ _ | refine blk_drew ?_ | refine blk_alloc ?_ _)); exact BK190.out)) : gb190 ≠ gb245)); have n9_ := Aside0.mk ((by rw [hg]; exact Nat.ne_of_gt (blk_lt (g := gb190) (o := .cells #[.int .i64 a1_0, .int .i64 a1_1, .int .i64 a1_2, .string a1_3] 39 (0, 0)) (by (with_reducible repeat (first | refine blk_drewN ?_ _ | refine blk_drew ?_ | refine blk_alloc ?_ _)); exact BK190.out)) : gb245 ≠ gb190)); have n10_ := Aside0.mk ((by rw [hg]; exact Nat.ne_of_lt (blk_lt (g := gb232) (o := .cells #[.int .i64 t223, .string t224, .bool t225] 41 (0, 0)) (by (with_reducible repeat (first | refine blk_drewN ?_ _ | refine blk_drew ?_ | refine blk_alloc ?_ _)); exact BK232.out)) : gb232 ≠ gb245)); have n11_ := Aside0.mk ((by rw [hg]; exact Nat.ne_of_gt (blk_lt (g := gb232) (o := .cells #[.int .i64 t223, .string t224, .bool t225] 41 (0, 0)) (by (with_reducible repeat (first | refine blk_drewN ?_ _ | refine blk_drew ?_ | refine blk_alloc ?_ _)); exact BK232.out)) : gb245 ≠ gb232)); have n12_ := Aside0.mk ((by rw [hg]; exact Nat.ne_of_lt (IsS63.lt (show IsS63 w _ g201 t241 t242 t243 t244 from by repeat (first | (with_reducible first | exact HI201.out | apply IsS63.alloc | apply IsS63.drewN | apply IsS63.drew | apply IsS63.set_0 | apply IsS63.set_1 | apply IsS63.set_2 | apply IsS63.set_3 | refine IsS63.far ?_ NB201_190.out _ | apply IsS63.far (hne := NB201_190.out) | refine IsS63.far ?_ NB201_232.out _ | apply IsS63.far (hne := NB201_232.out)) | exact HI201.out))) : g201 ≠ gb245)); have n13_ := Aside0.mk ((by rw [hg]; exact Nat.ne_of_gt (IsS63.lt (show IsS63 w _ g201 t241 t242 t243 t244 from by repeat (first | (with_reducible first | exact HI201.out | apply IsS63.alloc | apply IsS63.drewN | apply IsS63.drew | apply IsS63.set_0 | apply IsS63.set_1 | apply IsS63.set_2 | apply IsS63.set_3 | refine IsS63.far ?_ NB201_190.out _ | apply IsS63.far (hne := NB201_190.out) | refine IsS63.far ?_ NB201_232.out _ | apply IsS63.far (hne := NB201_232.out)) | exact HI201.out))) : gb245 ≠ g201)); clear HO_7; clear BK190; clear BK232; clear HI201; clear HB; have HO_7 := n0_; have BK190 := n1_; have BK232 := n2_; have HI201 := n3_; have HB := n4_; have BK245 := n5_; have GW245 := n6_; have GE245 := n7_; have NB190_245 := n8_; have NB245_190 := n9_; have NB232_245 := n10_; have NB245_232 := n11_; have NB201_245 := n12_; have NB245_201 := n13_; clear n0_ n1_ n2_ n3_ n4_ n5_ n6_ n7_ n8_ n9_ n10_ n11_ n12_ n13_; clear hb hbox hg; have hnb79 := NB245_190.out; have hnc79 := NB190_245.out; have hnb80 := NB245_232.out; have hnc80 := NB232_245.out; have hnb81 := NB245_201.out; have hnc81 := NB201_245.out; have hcz82_0 : w78.cell? ⟨gb245, 0, none⟩ = some (.int .i64 0) := (blk_cell BK245.out 0).trans rfl; have hcz82_1 : w78.cell? ⟨gb245, 1, none⟩ = some (.string (⟨#[]⟩ : ByteArray)) := (blk_cell BK245.out 1).trans rfl; have hcz82_2 : w78.cell? ⟨gb245, 2, none⟩ = some (.bool false) := (blk_cell BK245.out 2).trans rfl; have hfz82_0 := blk_frozen BK245.out 0; have hfz82_1 := blk_frozen BK245.out 1; have hfz82_2 := blk_frozen BK245.out 2))
                  go_ret
                  exact ⟨by first | rfl | (simp [errW_none, errW_some] <;> rfl) | (simp only [← hji35]; first | rfl | (simp [errW_none, errW_some] <;> rfl)) | (simp [*, errW_none, errW_some] <;> rfl), by repeat (first | (with_reducible first | exact HB.out | apply below_alloc | apply pw_below_drewN | apply below_drew1 | refine below_set ?_ (IsS63.ge HI201.out) | refine below_set ?_ GE190.out | refine below_set ?_ GE232.out | refine below_set ?_ GE245.out) | exact HB.out)⟩
                 ·replace c76 := Bool.eq_false_iff.mpr c76
                  subst c76
                  have H1 : (if t227 = x21_61 then (if t239 = true then (some false) else (if t240 = 11 then ((block_Blocks_Open.f t241 t242 t243 t244).bind fun bt246 => (some (bt246.1 == 0))) else (some false))) else (some false)) = some r := by rw [if_neg (show ¬ (false = true) by decide)] at H; exact H
                  clear H
                  have H := H1
                  clear H1
                  by_cases c83 : t227 = x21_61
                  ·rw [if_pos c83] at H
                   have c83b0 : (t227 == x21_61) = true := beq_iff_eq.mpr c83
                   have c83b1 : (t227 != x21_61) = false := bne_eq_false_iff_eq.mpr c83
                   clear c83
                   by_cases c84 : t239 = true
                   ·subst c84
                    have H1 : (some false) = some r := by rw [if_pos rfl] at H; exact H
                    clear H
                    have H := H1
                    clear H1
                    obtain rfl := Option.some.inj H
                    have p235 : 0 ≤ (ji35 : Int) := of_decide_eq_true (by first | (with_reducible assumption) | assumption)
                    have q235 : ji35 < (t193.length : Int) := of_decide_eq_true (by first | (with_reducible assumption) | assumption)
                    obtain ⟨ad235, e235, hx235_0, hx235_1, hx235_2, hx235_3⟩ := at_T39 (Kd.R_reads' HO_7.out).2.2 ji35 p235 q235
                    cases e235
                    replace p235 := eq_true p235
                    replace q235 := eq_true q235
                    go_wp2_with (first | ((with_reducible refine gate_callee (f := 16) rfl ?_); refine goesL_ (some 141) rfl rfl Try.func16 (by kernel_rfl) rfl #[.pointer (some ⟨g201, 0, none⟩), .agg #[.int .i64 ((rd_T39 t193 ji35).f0), .int .i64 ((rd_T39 t193 ji35).f1), .int .i64 ((rd_T39 t193 ji35).f2), .string ((rd_T39 t193 ji35).f3)]] rfl (by (try simp only [List.map_toArray, List.map_cons, List.map_nil]); first | done | (simp only [hji35]; rfl) | rfl | (simp only [List.length_drop, List.length_take]; rfl)) ?_; (with_reducible refine (block_Blocks_Take.calls kj61 g201 t228 t229 t230 t231 ((rd_T39 t193 ji35).f0) ((rd_T39 t193 ji35).f1) ((rd_T39 t193 ji35).f2) ((rd_T39 t193 ji35).f3) t236 t237 t238 true t240 t241 t242 t243 t244 w _ ?side1 ?side2 A75.out).mono ?_); (case side1 => repeat (first | (with_reducible first | exact HI201.out | apply IsS63.alloc | apply IsS63.drewN | apply IsS63.drew | apply IsS63.set_0 | apply IsS63.set_1 | apply IsS63.set_2 | apply IsS63.set_3 | refine IsS63.far ?_ NB201_190.out _ | apply IsS63.far (hne := NB201_190.out) | refine IsS63.far ?_ NB201_232.out _ | apply IsS63.far (hne := NB201_232.out)) | exact HI201.out)); (case side2 => repeat (first | (with_reducible first | exact HB.out | apply below_alloc | apply pw_below_drewN | apply below_drew1 | refine below_set ?_ (IsS63.ge HI201.out) | refine below_set ?_ GE190.out | refine below_set ?_ GE232.out) | exact HB.out)); rintro e w85 ⟨rfl, hi, hb, hk⟩; refine ⟨_, rfl, ?_⟩; have n0_ := Aside0.mk (Kd.R_mono (Kd.R_keep (IsS63.apart (show IsS63 w _ g201 t228 t229 t230 t231 from by repeat (first | (with_reducible first | exact HI201.out | apply IsS63.alloc | apply IsS63.drewN | apply IsS63.drew | apply IsS63.set_0 | apply IsS63.set_1 | apply IsS63.set_2 | apply IsS63.set_3 | refine IsS63.far ?_ NB201_190.out _ | apply IsS63.far (hne := NB201_190.out) | refine IsS63.far ?_ NB201_232.out _ | apply IsS63.far (hne := NB201_232.out)) | exact HI201.out)) (by (with_reducible repeat (first | apply Kd.R_alloc | apply Kd.R_drewN | apply Kd.R_drew)); exact HO_7.out) (by decide)) hk (fun _ h => h.2)) (fun _ h => h.1)); have n1_ := Aside0.mk (KeepBut.blk hk (g' := gb190) (o := .cells #[.int .i64 a1_0, .int .i64 a1_1, .int .i64 a1_2, .string a1_3] 39 (0, 0)) (by (with_reducible repeat (first | refine blk_drewN ?_ _ | refine blk_drew ?_ | refine blk_alloc ?_ _)); exact BK190.out) NB190_201.out (by simp)); have n2_ := Aside0.mk (KeepBut.blk hk (g' := gb232) (o := .cells #[.int .i64 t223, .string t224, .bool t225] 41 (0, 0)) (by (with_reducible repeat (first | refine blk_drewN ?_ _ | refine blk_drew ?_ | refine blk_alloc ?_ _)); exact BK232.out) NB232_201.out (by simp)); have n3_ := Aside0.mk (hb); have n4_ := Aside0.mk (hi); clear HO_7; clear BK190; clear BK232; clear HB; clear HI201; have HO_7 := n0_; have BK190 := n1_; have BK232 := n2_; have HB := n3_; have HI201 := n4_; clear n0_ n1_ n2_ n3_ n4_; (try clear hb); (try clear hb2); (try clear hk); (try clear hi)) | ((with_reducible refine gate_dst (N := 22) rfl ?_); (try (refine gate_guard (by rfl) ?_; dsimp only)); refine box_event ?hg (N := 22) ?hd (cs := #[.int .i64 0, .string (⟨#[]⟩ : ByteArray), .bool false]) (t := 41) ?hr ?_; (case hd => rfl); (case hg => rfl); (case hr => first | (go_simp; done) | (go_simp; rfl)); intro gb245 hg w86 hbox hb; have n0_ := Aside0.mk (Kd.R_below (by (with_reducible repeat (first | apply Kd.R_alloc | apply Kd.R_drewN | apply Kd.R_drew)); exact HO_7.out) hb); have n1_ := Aside0.mk (blk_below (g := gb190) (o := .cells #[.int .i64 a1_0, .int .i64 a1_1, .int .i64 a1_2, .string a1_3] 39 (0, 0)) (by (with_reducible repeat (first | refine blk_drewN ?_ _ | refine blk_drew ?_ | refine blk_alloc ?_ _)); exact BK190.out) hb); have n2_ := Aside0.mk (blk_below (g := gb232) (o := .cells #[.int .i64 t223, .string t224, .bool t225] 41 (0, 0)) (by (with_reducible repeat (first | refine blk_drewN ?_ _ | refine blk_drew ?_ | refine blk_alloc ?_ _)); exact BK232.out) hb); have n3_ := Aside0.mk (IsS63.below (by repeat (first | (with_reducible first | exact HI201.out | apply IsS63.alloc | apply IsS63.drewN | apply IsS63.drew | apply IsS63.set_0 | apply IsS63.set_1 | apply IsS63.set_2 | apply IsS63.set_3 | refine IsS63.far ?_ NB201_190.out _ | apply IsS63.far (hne := NB201_190.out) | refine IsS63.far ?_ NB201_232.out _ | apply IsS63.far (hne := NB201_232.out)) | exact HI201.out)) hb); have n4_ := Aside0.mk (below_step (by repeat (first | (with_reducible first | exact HB.out | apply below_alloc | apply pw_below_drewN | apply below_drew1 | refine below_set ?_ (IsS63.ge HI201.out) | refine below_set ?_ GE190.out | refine below_set ?_ GE232.out) | exact HB.out)) hb); have n5_ := Aside0.mk (hbox); have n6_ := Aside0.mk ((by rw [hg]; exact (below_size (by repeat (first | (with_reducible first | exact HB.out | apply below_alloc | apply pw_below_drewN | apply below_drew1 | refine below_set ?_ (IsS63.ge HI201.out) | refine below_set ?_ GE190.out | refine below_set ?_ GE232.out) | exact HB.out))) : w.heap.size ≤ gb245)); have n7_ := Aside0.mk ((by rw [hg]; exact (below_size (by repeat (first | (with_reducible first | exact HB.out | apply below_alloc | apply pw_below_drewN | apply below_drew1 | refine below_set ?_ (IsS63.ge HI201.out) | refine below_set ?_ GE190.out | refine below_set ?_ GE232.out) | exact HB.out))) : w.heap.size ≤ gb245)); have n8_ := Aside0.mk ((by rw [hg]; exact Nat.ne_of_lt (blk_lt (g := gb190) (o := .cells #[.int .i64 a1_0, .int .i64 a1_1, .int .i64 a1_2, .string a1_3] 39 (0, 0)) (by (with_reducible repeat (first | refine blk_drewN ?_ _ | refine blk_drew ?_ | refine blk_alloc ?_ _)); exact BK190.out)) : gb190 ≠ gb245)); have n9_ := Aside0.mk ((by rw [hg]; exact Nat.ne_of_gt (blk_lt (g := gb190) (o := .cells #[.int .i64 a1_0, .int .i64 a1_1, .int .i64 a1_2, .string a1_3] 39 (0, 0)) (by (with_reducible repeat (first | refine blk_drewN ?_ _ | refine blk_drew ?_ | refine blk_alloc ?_ _)); exact BK190.out)) : gb245 ≠ gb190)); have n10_ := Aside0.mk ((by rw [hg]; exact Nat.ne_of_lt (blk_lt (g := gb232) (o := .cells #[.int .i64 t223, .string t224, .bool t225] 41 (0, 0)) (by (with_reducible repeat (first | refine blk_drewN ?_ _ | refine blk_drew ?_ | refine blk_alloc ?_ _)); exact BK232.out)) : gb232 ≠ gb245)); have n11_ := Aside0.mk ((by rw [hg]; exact Nat.ne_of_gt (blk_lt (g := gb232) (o := .cells #[.int .i64 t223, .string t224, .bool t225] 41 (0, 0)) (by (with_reducible repeat (first | refine blk_drewN ?_ _ | refine blk_drew ?_ | refine blk_alloc ?_ _)); exact BK232.out)) : gb245 ≠ gb232)); have n12_ := Aside0.mk ((by rw [hg]; exact Nat.ne_of_lt (IsS63.lt (show IsS63 w _ g201 t241 t242 t243 t244 from by repeat (first | (with_reducible first | exact HI201.out | apply IsS63.alloc | apply IsS63.drewN | apply IsS63.drew | apply IsS63.set_0 | apply IsS63.set_1 | apply IsS63.set_2 | apply IsS63.set_3 | refine IsS63.far ?_ NB201_190.out _ | apply IsS63.far (hne := NB201_190.out) | refine IsS63.far ?_ NB201_232.out _ | apply IsS63.far (hne := NB201_232.out)) | exact HI201.out))) : g201 ≠ gb245)); have n13_ := Aside0.mk ((by rw [hg]; exact Nat.ne_of_gt (IsS63.lt (show IsS63 w _ g201 t241 t242 t243 t244 from by repeat (first | (with_reducible first | exact HI201.out | apply IsS63.alloc | apply IsS63.drewN | apply IsS63.drew | apply IsS63.set_0 | apply IsS63.set_1 | apply IsS63.set_2 | apply IsS63.set_3 | refine IsS63.far ?_ NB201_190.out _ | apply IsS63.far (hne := NB201_190.out) | refine IsS63.far ?_ NB201_232.out _ | apply IsS63.far (hne := NB201_232.out)) | exact HI201.out))) : gb245 ≠ g201)); clear HO_7; clear BK190; clear BK232; clear HI201; clear HB; have HO_7 := n0_; have BK190 := n1_; have BK232 := n2_; have HI201 := n3_; have HB := n4_; have BK245 := n5_; have GW245 := n6_; have GE245 := n7_; have NB190_245 := n8_; have NB245_190 := n9_; have NB232_245 := n10_; have NB245_232 := n11_; have NB201_245 := n12_; have NB245_201 := n13_; clear n0_ n1_ n2_ n3_ n4_ n5_ n6_ n7_ n8_ n9_ n10_ n11_ n12_ n13_; clear hb hbox hg; have hnb87 := NB245_190.out; have hnc87 := NB190_245.out; have hnb88 := NB245_232.out; have hnc88 := NB232_245.out; have hnb89 := NB245_201.out; have hnc89 := NB201_245.out; have hcz90_0 : w86.cell? ⟨gb245, 0, none⟩ = some (.int .i64 0) := (blk_cell BK245.out 0).trans rfl; have hcz90_1 : w86.cell? ⟨gb245, 1, none⟩ = some (.string (⟨#[]⟩ : ByteArray)) := (blk_cell BK245.out 1).trans rfl; have hcz90_2 : w86.cell? ⟨gb245, 2, none⟩ = some (.bool false) := (blk_cell BK245.out 2).trans rfl; have hfz90_0 := blk_frozen BK245.out 0; have hfz90_1 := blk_frozen BK245.out 1; have hfz90_2 := blk_frozen BK245.out 2))
                    go_ret
                    exact ⟨by first | rfl | (simp [errW_none, errW_some] <;> rfl) | (simp only [← hji35]; first | rfl | (simp [errW_none, errW_some] <;> rfl)) | (simp [*, errW_none, errW_some] <;> rfl), by repeat (first | (with_reducible first | exact HB.out | apply below_alloc | apply pw_below_drewN | apply below_drew1 | refine below_set ?_ (IsS63.ge HI201.out) | refine below_set ?_ GE190.out | refine below_set ?_ GE232.out | refine below_set ?_ GE245.out) | exact HB.out)⟩
                   ·replace c84 := Bool.eq_false_iff.mpr c84
                    subst c84
                    have H1 : (if t240 = 11 then ((block_Blocks_Open.f t241 t242 t243 t244).bind fun bt246 => (some (bt246.1 == 0))) else (some false)) = some r := by rw [if_neg (show ¬ (false = true) by decide)] at H; exact H
                    clear H
                    have H := H1
                    clear H1
                    by_cases c91 : t240 = 11
                    ·rw [if_pos c91] at H
                     have c91b0 : (t240 == 11) = true := beq_iff_eq.mpr c91
                     have c91b1 : (t240 != 11) = false := bne_eq_false_iff_eq.mpr c91
                     clear c91
                     replace H := Option.bind_eq_some_iff.mp H
                     obtain ⟨⟨t246, t247, t248, t249, t250⟩, A920, H⟩ := H
                     replace H : (some (t246 == 0)) = some r := H
                     have A92 := Aside0.mk A920
                     clear A920
                     obtain rfl := Option.some.inj H
                     have p235 : 0 ≤ (ji35 : Int) := of_decide_eq_true (by first | (with_reducible assumption) | assumption)
                     have q235 : ji35 < (t193.length : Int) := of_decide_eq_true (by first | (with_reducible assumption) | assumption)
                     obtain ⟨ad235, e235, hx235_0, hx235_1, hx235_2, hx235_3⟩ := at_T39 (Kd.R_reads' HO_7.out).2.2 ji35 p235 q235
                     cases e235
                     replace p235 := eq_true p235
                     replace q235 := eq_true q235
                     go_wp2_with (first | ((with_reducible refine gate_callee (f := 16) rfl ?_); refine goesL_ (some 141) rfl rfl Try.func16 (by kernel_rfl) rfl #[.pointer (some ⟨g201, 0, none⟩), .agg #[.int .i64 ((rd_T39 t193 ji35).f0), .int .i64 ((rd_T39 t193 ji35).f1), .int .i64 ((rd_T39 t193 ji35).f2), .string ((rd_T39 t193 ji35).f3)]] rfl (by (try simp only [List.map_toArray, List.map_cons, List.map_nil]); first | done | (simp only [hji35]; rfl) | rfl | (simp only [List.length_drop, List.length_take]; rfl)) ?_; (with_reducible refine (block_Blocks_Take.calls kj61 g201 t228 t229 t230 t231 ((rd_T39 t193 ji35).f0) ((rd_T39 t193 ji35).f1) ((rd_T39 t193 ji35).f2) ((rd_T39 t193 ji35).f3) t236 t237 t238 false t240 t241 t242 t243 t244 w _ ?side1 ?side2 A75.out).mono ?_); (case side1 => repeat (first | (with_reducible first | exact HI201.out | apply IsS63.alloc | apply IsS63.drewN | apply IsS63.drew | apply IsS63.set_0 | apply IsS63.set_1 | apply IsS63.set_2 | apply IsS63.set_3 | refine IsS63.far ?_ NB201_190.out _ | apply IsS63.far (hne := NB201_190.out) | refine IsS63.far ?_ NB201_232.out _ | apply IsS63.far (hne := NB201_232.out)) | exact HI201.out)); (case side2 => repeat (first | (with_reducible first | exact HB.out | apply below_alloc | apply pw_below_drewN | apply below_drew1 | refine below_set ?_ (IsS63.ge HI201.out) | refine below_set ?_ GE190.out | refine below_set ?_ GE232.out) | exact HB.out)); rintro e w93 ⟨rfl, hi, hb, hk⟩; refine ⟨_, rfl, ?_⟩; have n0_ := Aside0.mk (Kd.R_mono (Kd.R_keep (IsS63.apart (show IsS63 w _ g201 t228 t229 t230 t231 from by repeat (first | (with_reducible first | exact HI201.out | apply IsS63.alloc | apply IsS63.drewN | apply IsS63.drew | apply IsS63.set_0 | apply IsS63.set_1 | apply IsS63.set_2 | apply IsS63.set_3 | refine IsS63.far ?_ NB201_190.out _ | apply IsS63.far (hne := NB201_190.out) | refine IsS63.far ?_ NB201_232.out _ | apply IsS63.far (hne := NB201_232.out)) | exact HI201.out)) (by (with_reducible repeat (first | apply Kd.R_alloc | apply Kd.R_drewN | apply Kd.R_drew)); exact HO_7.out) (by decide)) hk (fun _ h => h.2)) (fun _ h => h.1)); have n1_ := Aside0.mk (KeepBut.blk hk (g' := gb190) (o := .cells #[.int .i64 a1_0, .int .i64 a1_1, .int .i64 a1_2, .string a1_3] 39 (0, 0)) (by (with_reducible repeat (first | refine blk_drewN ?_ _ | refine blk_drew ?_ | refine blk_alloc ?_ _)); exact BK190.out) NB190_201.out (by simp)); have n2_ := Aside0.mk (KeepBut.blk hk (g' := gb232) (o := .cells #[.int .i64 t223, .string t224, .bool t225] 41 (0, 0)) (by (with_reducible repeat (first | refine blk_drewN ?_ _ | refine blk_drew ?_ | refine blk_alloc ?_ _)); exact BK232.out) NB232_201.out (by simp)); have n3_ := Aside0.mk (hb); have n4_ := Aside0.mk (hi); clear HO_7; clear BK190; clear BK232; clear HB; clear HI201; have HO_7 := n0_; have BK190 := n1_; have BK232 := n2_; have HB := n3_; have HI201 := n4_; clear n0_ n1_ n2_ n3_ n4_; (try clear hb); (try clear hb2); (try clear hk); (try clear hi)) | ((with_reducible refine gate_dst (N := 22) rfl ?_); (try (refine gate_guard (by rfl) ?_; dsimp only)); refine box_event ?hg (N := 22) ?hd (cs := #[.int .i64 0, .string (⟨#[]⟩ : ByteArray), .bool false]) (t := 41) ?hr ?_; (case hd => rfl); (case hg => rfl); (case hr => first | (go_simp; done) | (go_simp; rfl)); intro gb245 hg w94 hbox hb; have n0_ := Aside0.mk (Kd.R_below (by (with_reducible repeat (first | apply Kd.R_alloc | apply Kd.R_drewN | apply Kd.R_drew)); exact HO_7.out) hb); have n1_ := Aside0.mk (blk_below (g := gb190) (o := .cells #[.int .i64 a1_0, .int .i64 a1_1, .int .i64 a1_2, .string a1_3] 39 (0, 0)) (by (with_reducible repeat (first | refine blk_drewN ?_ _ | refine blk_drew ?_ | refine blk_alloc ?_ _)); exact BK190.out) hb); have n2_ := Aside0.mk (blk_below (g := gb232) (o := .cells #[.int .i64 t223, .string t224, .bool t225] 41 (0, 0)) (by (with_reducible repeat (first | refine blk_drewN ?_ _ | refine blk_drew ?_ | refine blk_alloc ?_ _)); exact BK232.out) hb); have n3_ := Aside0.mk (IsS63.below (by repeat (first | (with_reducible first | exact HI201.out | apply IsS63.alloc | apply IsS63.drewN | apply IsS63.drew | apply IsS63.set_0 | apply IsS63.set_1 | apply IsS63.set_2 | apply IsS63.set_3 | refine IsS63.far ?_ NB201_190.out _ | apply IsS63.far (hne := NB201_190.out) | refine IsS63.far ?_ NB201_232.out _ | apply IsS63.far (hne := NB201_232.out)) | exact HI201.out)) hb); have n4_ := Aside0.mk (below_step (by repeat (first | (with_reducible first | exact HB.out | apply below_alloc | apply pw_below_drewN | apply below_drew1 | refine below_set ?_ (IsS63.ge HI201.out) | refine below_set ?_ GE190.out | refine below_set ?_ GE232.out) | exact HB.out)) hb); have n5_ := Aside0.mk (hbox); have n6_ := Aside0.mk ((by rw [hg]; exact (below_size (by repeat (first | (with_reducible first | exact HB.out | apply below_alloc | apply pw_below_drewN | apply below_drew1 | refine below_set ?_ (IsS63.ge HI201.out) | refine below_set ?_ GE190.out | refine below_set ?_ GE232.out) | exact HB.out))) : w.heap.size ≤ gb245)); have n7_ := Aside0.mk ((by rw [hg]; exact (below_size (by repeat (first | (with_reducible first | exact HB.out | apply below_alloc | apply pw_below_drewN | apply below_drew1 | refine below_set ?_ (IsS63.ge HI201.out) | refine below_set ?_ GE190.out | refine below_set ?_ GE232.out) | exact HB.out))) : w.heap.size ≤ gb245)); have n8_ := Aside0.mk ((by rw [hg]; exact Nat.ne_of_lt (blk_lt (g := gb190) (o := .cells #[.int .i64 a1_0, .int .i64 a1_1, .int .i64 a1_2, .string a1_3] 39 (0, 0)) (by (with_reducible repeat (first | refine blk_drewN ?_ _ | refine blk_drew ?_ | refine blk_alloc ?_ _)); exact BK190.out)) : gb190 ≠ gb245)); have n9_ := Aside0.mk ((by rw [hg]; exact Nat.ne_of_gt (blk_lt (g := gb190) (o := .cells #[.int .i64 a1_0, .int .i64 a1_1, .int .i64 a1_2, .string a1_3] 39 (0, 0)) (by (with_reducible repeat (first | refine blk_drewN ?_ _ | refine blk_drew ?_ | refine blk_alloc ?_ _)); exact BK190.out)) : gb245 ≠ gb190)); have n10_ := Aside0.mk ((by rw [hg]; exact Nat.ne_of_lt (blk_lt (g := gb232) (o := .cells #[.int .i64 t223, .string t224, .bool t225] 41 (0, 0)) (by (with_reducible repeat (first | refine blk_drewN ?_ _ | refine blk_drew ?_ | refine blk_alloc ?_ _)); exact BK232.out)) : gb232 ≠ gb245)); have n11_ := Aside0.mk ((by rw [hg]; exact Nat.ne_of_gt (blk_lt (g := gb232) (o := .cells #[.int .i64 t223, .string t224, .bool t225] 41 (0, 0)) (by (with_reducible repeat (first | refine blk_drewN ?_ _ | refine blk_drew ?_ | refine blk_alloc ?_ _)); exact BK232.out)) : gb245 ≠ gb232)); have n12_ := Aside0.mk ((by rw [hg]; exact Nat.ne_of_lt (IsS63.lt (show IsS63 w _ g201 t241 t242 t243 t244 from by repeat (first | (with_reducible first | exact HI201.out | apply IsS63.alloc | apply IsS63.drewN | apply IsS63.drew | apply IsS63.set_0 | apply IsS63.set_1 | apply IsS63.set_2 | apply IsS63.set_3 | refine IsS63.far ?_ NB201_190.out _ | apply IsS63.far (hne := NB201_190.out) | refine IsS63.far ?_ NB201_232.out _ | apply IsS63.far (hne := NB201_232.out)) | exact HI201.out))) : g201 ≠ gb245)); have n13_ := Aside0.mk ((by rw [hg]; exact Nat.ne_of_gt (IsS63.lt (show IsS63 w _ g201 t241 t242 t243 t244 from by repeat (first | (with_reducible first | exact HI201.out | apply IsS63.alloc | apply IsS63.drewN | apply IsS63.drew | apply IsS63.set_0 | apply IsS63.set_1 | apply IsS63.set_2 | apply IsS63.set_3 | refine IsS63.far ?_ NB201_190.out _ | apply IsS63.far (hne := NB201_190.out) | refine IsS63.far ?_ NB201_232.out _ | apply IsS63.far (hne := NB201_232.out)) | exact HI201.out))) : gb245 ≠ g201)); clear HO_7; clear BK190; clear BK232; clear HI201; clear HB; have HO_7 := n0_; have BK190 := n1_; have BK232 := n2_; have HI201 := n3_; have HB := n4_; have BK245 := n5_; have GW245 := n6_; have GE245 := n7_; have NB190_245 := n8_; have NB245_190 := n9_; have NB232_245 := n10_; have NB245_232 := n11_; have NB201_245 := n12_; have NB245_201 := n13_; clear n0_ n1_ n2_ n3_ n4_ n5_ n6_ n7_ n8_ n9_ n10_ n11_ n12_ n13_; clear hb hbox hg; have hnb95 := NB245_190.out; have hnc95 := NB190_245.out; have hnb96 := NB245_232.out; have hnc96 := NB232_245.out; have hnb97 := NB245_201.out; have hnc97 := NB201_245.out; have hcz98_0 : w94.cell? ⟨gb245, 0, none⟩ = some (.int .i64 0) := (blk_cell BK245.out 0).trans rfl; have hcz98_1 : w94.cell? ⟨gb245, 1, none⟩ = some (.string (⟨#[]⟩ : ByteArray)) := (blk_cell BK245.out 1).trans rfl; have hcz98_2 : w94.cell? ⟨gb245, 2, none⟩ = some (.bool false) := (blk_cell BK245.out 2).trans rfl; have hfz98_0 := blk_frozen BK245.out 0; have hfz98_1 := blk_frozen BK245.out 1; have hfz98_2 := blk_frozen BK245.out 2) | (go_at_call 17; (with_reducible refine (block_Blocks_Open.calls g201 t241 t242 t243 t244 t246 t247 t248 t249 t250 w _ ?side1 ?side2 A92.out).mono ?_); (case side1 => repeat (first | (with_reducible first | exact HI201.out | apply IsS63.alloc | apply IsS63.drewN | apply IsS63.drew | apply IsS63.set_0 | apply IsS63.set_1 | apply IsS63.set_2 | apply IsS63.set_3 | refine IsS63.far ?_ NB201_190.out _ | apply IsS63.far (hne := NB201_190.out) | refine IsS63.far ?_ NB201_232.out _ | apply IsS63.far (hne := NB201_232.out) | refine IsS63.far ?_ NB201_245.out _ | apply IsS63.far (hne := NB201_245.out)) | exact HI201.out)); (case side2 => repeat (first | (with_reducible first | exact HB.out | apply below_alloc | apply pw_below_drewN | apply below_drew1 | refine below_set ?_ (IsS63.ge HI201.out) | refine below_set ?_ GE190.out | refine below_set ?_ GE232.out | refine below_set ?_ GE245.out) | exact HB.out)); rintro e w99 ⟨rfl, hi, hb, hk⟩; have n0_ := Aside0.mk (Kd.R_mono (Kd.R_keep (IsS63.apart (show IsS63 w _ g201 t241 t242 t243 t244 from by repeat (first | (with_reducible first | exact HI201.out | apply IsS63.alloc | apply IsS63.drewN | apply IsS63.drew | apply IsS63.set_0 | apply IsS63.set_1 | apply IsS63.set_2 | apply IsS63.set_3 | refine IsS63.far ?_ NB201_190.out _ | apply IsS63.far (hne := NB201_190.out) | refine IsS63.far ?_ NB201_232.out _ | apply IsS63.far (hne := NB201_232.out) | refine IsS63.far ?_ NB201_245.out _ | apply IsS63.far (hne := NB201_245.out)) | exact HI201.out)) (by (with_reducible repeat (first | apply Kd.R_alloc | apply Kd.R_drewN | apply Kd.R_drew)); exact (Kd.R_mono (Kd.R_far (p := ⟨gb245, 2, none⟩) (Kd.R_far (p := ⟨gb245, 1, none⟩) (Kd.R_far (p := ⟨gb245, 0, none⟩) (Kd.R_types HO_7.out BK245.out (by decide)) (fun _ hk => hk.2) (.int .i64 t236)) (fun _ hk => hk.2) (.string t237)) (fun _ hk => hk.2) (.bool t238)) (fun _ h_ => h_.1))) (by decide)) hk (fun _ h => h.2)) (fun _ h => h.1)); have n1_ := Aside0.mk (KeepBut.blk hk (g' := gb190) (o := .cells #[.int .i64 a1_0, .int .i64 a1_1, .int .i64 a1_2, .string a1_3] 39 (0, 0)) (by (with_reducible repeat (first | refine blk_drewN ?_ _ | refine blk_drew ?_ | refine blk_alloc ?_ _)); refine blk_far ?_ NB190_245.out _; (with_reducible repeat (first | refine blk_drewN ?_ _ | refine blk_drew ?_ | refine blk_alloc ?_ _)); refine blk_far ?_ NB190_245.out _; (with_reducible repeat (first | refine blk_drewN ?_ _ | refine blk_drew ?_ | refine blk_alloc ?_ _)); refine blk_far ?_ NB190_245.out _; (with_reducible repeat (first | refine blk_drewN ?_ _ | refine blk_drew ?_ | refine blk_alloc ?_ _)); exact BK190.out) NB190_201.out (by simp)); have n2_ := Aside0.mk (KeepBut.blk hk (g' := gb232) (o := .cells #[.int .i64 t223, .string t224, .bool t225] 41 (0, 0)) (by (with_reducible repeat (first | refine blk_drewN ?_ _ | refine blk_drew ?_ | refine blk_alloc ?_ _)); refine blk_far ?_ NB232_245.out _; (with_reducible repeat (first | refine blk_drewN ?_ _ | refine blk_drew ?_ | refine blk_alloc ?_ _)); refine blk_far ?_ NB232_245.out _; (with_reducible repeat (first | refine blk_drewN ?_ _ | refine blk_drew ?_ | refine blk_alloc ?_ _)); refine blk_far ?_ NB232_245.out _; (with_reducible repeat (first | refine blk_drewN ?_ _ | refine blk_drew ?_ | refine blk_alloc ?_ _)); exact BK232.out) NB232_201.out (by simp)); have n3_ := Aside0.mk (KeepBut.blk hk (g' := gb245) (o := .cells #[.int .i64 t236, .string t237, .bool t238] 41 (0, 0)) (by (with_reducible repeat (first | refine blk_drewN ?_ _ | refine blk_drew ?_ | refine blk_alloc ?_ _)); refine blk_put (cs := #[.int .i64 t236, .string t237, .bool false]) ?_ 2 _ rfl; (with_reducible repeat (first | refine blk_drewN ?_ _ | refine blk_drew ?_ | refine blk_alloc ?_ _)); refine blk_put (cs := #[.int .i64 t236, .string (⟨#[]⟩ : ByteArray), .bool false]) ?_ 1 _ rfl; (with_reducible repeat (first | refine blk_drewN ?_ _ | refine blk_drew ?_ | refine blk_alloc ?_ _)); refine blk_put (cs := #[.int .i64 0, .string (⟨#[]⟩ : ByteArray), .bool false]) ?_ 0 _ rfl; (with_reducible repeat (first | refine blk_drewN ?_ _ | refine blk_drew ?_ | refine blk_alloc ?_ _)); exact BK245.out) NB245_201.out (by simp)); have n4_ := Aside0.mk (hb); have n5_ := Aside0.mk (hi); clear HO_7; clear BK190; clear BK232; clear BK245; clear HB; clear HI201; have HO_7 := n0_; have BK190 := n1_; have BK232 := n2_; have BK245 := n3_; have HB := n4_; have HI201 := n5_; clear n0_ n1_ n2_ n3_ n4_ n5_; (try clear hb); (try clear hb2); (try clear hk); (try clear hi)))
                     go_ret
                     exact ⟨by first | rfl | (simp [errW_none, errW_some] <;> rfl) | (simp only [← hji35]; first | rfl | (simp [errW_none, errW_some] <;> rfl)) | (simp [*, errW_none, errW_some] <;> rfl), by repeat (first | (with_reducible first | exact HB.out | apply below_alloc | apply pw_below_drewN | apply below_drew1 | refine below_set ?_ (IsS63.ge HI201.out) | refine below_set ?_ GE190.out | refine below_set ?_ GE232.out | refine below_set ?_ GE245.out) | exact HB.out)⟩
                    ·rw [if_neg c91] at H
                     have c91b0 : (t240 == 11) = false := beq_eq_false_iff_ne.mpr c91
                     have c91b1 : (t240 != 11) = true := bne_iff_ne.mpr c91
                     obtain rfl := Option.some.inj H
                     have p235 : 0 ≤ (ji35 : Int) := of_decide_eq_true (by first | (with_reducible assumption) | assumption)
                     have q235 : ji35 < (t193.length : Int) := of_decide_eq_true (by first | (with_reducible assumption) | assumption)
                     obtain ⟨ad235, e235, hx235_0, hx235_1, hx235_2, hx235_3⟩ := at_T39 (Kd.R_reads' HO_7.out).2.2 ji35 p235 q235
                     cases e235
                     replace p235 := eq_true p235
                     replace q235 := eq_true q235
                     go_wp2_with (first | ((with_reducible refine gate_callee (f := 16) rfl ?_); refine goesL_ (some 141) rfl rfl Try.func16 (by kernel_rfl) rfl #[.pointer (some ⟨g201, 0, none⟩), .agg #[.int .i64 ((rd_T39 t193 ji35).f0), .int .i64 ((rd_T39 t193 ji35).f1), .int .i64 ((rd_T39 t193 ji35).f2), .string ((rd_T39 t193 ji35).f3)]] rfl (by (try simp only [List.map_toArray, List.map_cons, List.map_nil]); first | done | (simp only [hji35]; rfl) | rfl | (simp only [List.length_drop, List.length_take]; rfl)) ?_; (with_reducible refine (block_Blocks_Take.calls kj61 g201 t228 t229 t230 t231 ((rd_T39 t193 ji35).f0) ((rd_T39 t193 ji35).f1) ((rd_T39 t193 ji35).f2) ((rd_T39 t193 ji35).f3) t236 t237 t238 false t240 t241 t242 t243 t244 w _ ?side1 ?side2 A75.out).mono ?_); (case side1 => repeat (first | (with_reducible first | exact HI201.out | apply IsS63.alloc | apply IsS63.drewN | apply IsS63.drew | apply IsS63.set_0 | apply IsS63.set_1 | apply IsS63.set_2 | apply IsS63.set_3 | refine IsS63.far ?_ NB201_190.out _ | apply IsS63.far (hne := NB201_190.out) | refine IsS63.far ?_ NB201_232.out _ | apply IsS63.far (hne := NB201_232.out)) | exact HI201.out)); (case side2 => repeat (first | (with_reducible first | exact HB.out | apply below_alloc | apply pw_below_drewN | apply below_drew1 | refine below_set ?_ (IsS63.ge HI201.out) | refine below_set ?_ GE190.out | refine below_set ?_ GE232.out) | exact HB.out)); rintro e w100 ⟨rfl, hi, hb, hk⟩; refine ⟨_, rfl, ?_⟩; have n0_ := Aside0.mk (Kd.R_mono (Kd.R_keep (IsS63.apart (show IsS63 w _ g201 t228 t229 t230 t231 from by repeat (first | (with_reducible first | exact HI201.out | apply IsS63.alloc | apply IsS63.drewN | apply IsS63.drew | apply IsS63.set_0 | apply IsS63.set_1 | apply IsS63.set_2 | apply IsS63.set_3 | refine IsS63.far ?_ NB201_190.out _ | apply IsS63.far (hne := NB201_190.out) | refine IsS63.far ?_ NB201_232.out _ | apply IsS63.far (hne := NB201_232.out)) | exact HI201.out)) (by (with_reducible repeat (first | apply Kd.R_alloc | apply Kd.R_drewN | apply Kd.R_drew)); exact HO_7.out) (by decide)) hk (fun _ h => h.2)) (fun _ h => h.1)); have n1_ := Aside0.mk (KeepBut.blk hk (g' := gb190) (o := .cells #[.int .i64 a1_0, .int .i64 a1_1, .int .i64 a1_2, .string a1_3] 39 (0, 0)) (by (with_reducible repeat (first | refine blk_drewN ?_ _ | refine blk_drew ?_ | refine blk_alloc ?_ _)); exact BK190.out) NB190_201.out (by simp)); have n2_ := Aside0.mk (KeepBut.blk hk (g' := gb232) (o := .cells #[.int .i64 t223, .string t224, .bool t225] 41 (0, 0)) (by (with_reducible repeat (first | refine blk_drewN ?_ _ | refine blk_drew ?_ | refine blk_alloc ?_ _)); exact BK232.out) NB232_201.out (by simp)); have n3_ := Aside0.mk (hb); have n4_ := Aside0.mk (hi); clear HO_7; clear BK190; clear BK232; clear HB; clear HI201; have HO_7 := n0_; have BK190 := n1_; have BK232 := n2_; have HB := n3_; have HI201 := n4_; clear n0_ n1_ n2_ n3_ n4_; (try clear hb); (try clear hb2); (try clear hk); (try clear hi)) | ((with_reducible refine gate_dst (N := 22) rfl ?_); (try (refine gate_guard (by rfl) ?_; dsimp only)); refine box_event ?hg (N := 22) ?hd (cs := #[.int .i64 0, .string (⟨#[]⟩ : ByteArray), .bool false]) (t := 41) ?hr ?_; (case hd => rfl); (case hg => rfl); (case hr => first | (go_simp; done) | (go_simp; rfl)); intro gb245 hg w101 hbox hb; have n0_ := Aside0.mk (Kd.R_below (by (with_reducible repeat (first | apply Kd.R_alloc | apply Kd.R_drewN | apply Kd.R_drew)); exact HO_7.out) hb); have n1_ := Aside0.mk (blk_below (g := gb190) (o := .cells #[.int .i64 a1_0, .int .i64 a1_1, .int .i64 a1_2, .string a1_3] 39 (0, 0)) (by (with_reducible repeat (first | refine blk_drewN ?_ _ | refine blk_drew ?_ | refine blk_alloc ?_ _)); exact BK190.out) hb); have n2_ := Aside0.mk (blk_below (g := gb232) (o := .cells #[.int .i64 t223, .string t224, .bool t225] 41 (0, 0)) (by (with_reducible repeat (first | refine blk_drewN ?_ _ | refine blk_drew ?_ | refine blk_alloc ?_ _)); exact BK232.out) hb); have n3_ := Aside0.mk (IsS63.below (by repeat (first | (with_reducible first | exact HI201.out | apply IsS63.alloc | apply IsS63.drewN | apply IsS63.drew | apply IsS63.set_0 | apply IsS63.set_1 | apply IsS63.set_2 | apply IsS63.set_3 | refine IsS63.far ?_ NB201_190.out _ | apply IsS63.far (hne := NB201_190.out) | refine IsS63.far ?_ NB201_232.out _ | apply IsS63.far (hne := NB201_232.out)) | exact HI201.out)) hb); have n4_ := Aside0.mk (below_step (by repeat (first | (with_reducible first | exact HB.out | apply below_alloc | apply pw_below_drewN | apply below_drew1 | refine below_set ?_ (IsS63.ge HI201.out) | refine below_set ?_ GE190.out | refine below_set ?_ GE232.out) | exact HB.out)) hb); have n5_ := Aside0.mk (hbox); have n6_ := Aside0.mk ((by rw [hg]; exact (below_size (by repeat (first | (with_reducible first | exact HB.out | apply below_alloc | apply pw_below_drewN | apply below_drew1 | refine below_set ?_ (IsS63.ge HI201.out) | refine below_set ?_ GE190.out | refine below_set ?_ GE232.out) | exact HB.out))) : w.heap.size ≤ gb245)); have n7_ := Aside0.mk ((by rw [hg]; exact (below_size (by repeat (first | (with_reducible first | exact HB.out | apply below_alloc | apply pw_below_drewN | apply below_drew1 | refine below_set ?_ (IsS63.ge HI201.out) | refine below_set ?_ GE190.out | refine below_set ?_ GE232.out) | exact HB.out))) : w.heap.size ≤ gb245)); have n8_ := Aside0.mk ((by rw [hg]; exact Nat.ne_of_lt (blk_lt (g := gb190) (o := .cells #[.int .i64 a1_0, .int .i64 a1_1, .int .i64 a1_2, .string a1_3] 39 (0, 0)) (by (with_reducible repeat (first | refine blk_drewN ?_ _ | refine blk_drew ?_ | refine blk_alloc ?_ _)); exact BK190.out)) : gb190 ≠ gb245)); have n9_ := Aside0.mk ((by rw [hg]; exact Nat.ne_of_gt (blk_lt (g := gb190) (o := .cells #[.int .i64 a1_0, .int .i64 a1_1, .int .i64 a1_2, .string a1_3] 39 (0, 0)) (by (with_reducible repeat (first | refine blk_drewN ?_ _ | refine blk_drew ?_ | refine blk_alloc ?_ _)); exact BK190.out)) : gb245 ≠ gb190)); have n10_ := Aside0.mk ((by rw [hg]; exact Nat.ne_of_lt (blk_lt (g := gb232) (o := .cells #[.int .i64 t223, .string t224, .bool t225] 41 (0, 0)) (by (with_reducible repeat (first | refine blk_drewN ?_ _ | refine blk_drew ?_ | refine blk_alloc ?_ _)); exact BK232.out)) : gb232 ≠ gb245)); have n11_ := Aside0.mk ((by rw [hg]; exact Nat.ne_of_gt (blk_lt (g := gb232) (o := .cells #[.int .i64 t223, .string t224, .bool t225] 41 (0, 0)) (by (with_reducible repeat (first | refine blk_drewN ?_ _ | refine blk_drew ?_ | refine blk_alloc ?_ _)); exact BK232.out)) : gb245 ≠ gb232)); have n12_ := Aside0.mk ((by rw [hg]; exact Nat.ne_of_lt (IsS63.lt (show IsS63 w _ g201 t241 t242 t243 t244 from by repeat (first | (with_reducible first | exact HI201.out | apply IsS63.alloc | apply IsS63.drewN | apply IsS63.drew | apply IsS63.set_0 | apply IsS63.set_1 | apply IsS63.set_2 | apply IsS63.set_3 | refine IsS63.far ?_ NB201_190.out _ | apply IsS63.far (hne := NB201_190.out) | refine IsS63.far ?_ NB201_232.out _ | apply IsS63.far (hne := NB201_232.out)) | exact HI201.out))) : g201 ≠ gb245)); have n13_ := Aside0.mk ((by rw [hg]; exact Nat.ne_of_gt (IsS63.lt (show IsS63 w _ g201 t241 t242 t243 t244 from by repeat (first | (with_reducible first | exact HI201.out | apply IsS63.alloc | apply IsS63.drewN | apply IsS63.drew | apply IsS63.set_0 | apply IsS63.set_1 | apply IsS63.set_2 | apply IsS63.set_3 | refine IsS63.far ?_ NB201_190.out _ | apply IsS63.far (hne := NB201_190.out) | refine IsS63.far ?_ NB201_232.out _ | apply IsS63.far (hne := NB201_232.out)) | exact HI201.out))) : gb245 ≠ g201)); clear HO_7; clear BK190; clear BK232; clear HI201; clear HB; have HO_7 := n0_; have BK190 := n1_; have BK232 := n2_; have HI201 := n3_; have HB := n4_; have BK245 := n5_; have GW245 := n6_; have GE245 := n7_; have NB190_245 := n8_; have NB245_190 := n9_; have NB232_245 := n10_; have NB245_232 := n11_; have NB201_245 := n12_; have NB245_201 := n13_; clear n0_ n1_ n2_ n3_ n4_ n5_ n6_ n7_ n8_ n9_ n10_ n11_ n12_ n13_; clear hb hbox hg; have hnb102 := NB245_190.out; have hnc102 := NB190_245.out; have hnb103 := NB245_232.out; have hnc103 := NB232_245.out; have hnb104 := NB245_201.out; have hnc104 := NB201_245.out; have hcz105_0 : w101.cell? ⟨gb245, 0, none⟩ = some (.int .i64 0) := (blk_cell BK245.out 0).trans rfl; have hcz105_1 : w101.cell? ⟨gb245, 1, none⟩ = some (.string (⟨#[]⟩ : ByteArray)) := (blk_cell BK245.out 1).trans rfl; have hcz105_2 : w101.cell? ⟨gb245, 2, none⟩ = some (.bool false) := (blk_cell BK245.out 2).trans rfl; have hfz105_0 := blk_frozen BK245.out 0; have hfz105_1 := blk_frozen BK245.out 1; have hfz105_2 := blk_frozen BK245.out 2))
                     go_ret
                     exact ⟨by first | rfl | (simp [errW_none, errW_some] <;> rfl) | (simp only [← hji35]; first | rfl | (simp [errW_none, errW_some] <;> rfl)) | (simp [*, errW_none, errW_some] <;> rfl), by repeat (first | (with_reducible first | exact HB.out | apply below_alloc | apply pw_below_drewN | apply below_drew1 | refine below_set ?_ (IsS63.ge HI201.out) | refine below_set ?_ GE190.out | refine below_set ?_ GE232.out | refine below_set ?_ GE245.out) | exact HB.out)⟩
                  ·rw [if_neg c83] at H
                   have c83b0 : (t227 == x21_61) = false := beq_eq_false_iff_ne.mpr c83
                   have c83b1 : (t227 != x21_61) = true := bne_iff_ne.mpr c83
                   obtain rfl := Option.some.inj H
                   have p235 : 0 ≤ (ji35 : Int) := of_decide_eq_true (by first | (with_reducible assumption) | assumption)
                   have q235 : ji35 < (t193.length : Int) := of_decide_eq_true (by first | (with_reducible assumption) | assumption)
                   obtain ⟨ad235, e235, hx235_0, hx235_1, hx235_2, hx235_3⟩ := at_T39 (Kd.R_reads' HO_7.out).2.2 ji35 p235 q235
                   cases e235
                   replace p235 := eq_true p235
                   replace q235 := eq_true q235
                   go_wp2_with (first | ((with_reducible refine gate_callee (f := 16) rfl ?_); refine goesL_ (some 141) rfl rfl Try.func16 (by kernel_rfl) rfl #[.pointer (some ⟨g201, 0, none⟩), .agg #[.int .i64 ((rd_T39 t193 ji35).f0), .int .i64 ((rd_T39 t193 ji35).f1), .int .i64 ((rd_T39 t193 ji35).f2), .string ((rd_T39 t193 ji35).f3)]] rfl (by (try simp only [List.map_toArray, List.map_cons, List.map_nil]); first | done | (simp only [hji35]; rfl) | rfl | (simp only [List.length_drop, List.length_take]; rfl)) ?_; (with_reducible refine (block_Blocks_Take.calls kj61 g201 t228 t229 t230 t231 ((rd_T39 t193 ji35).f0) ((rd_T39 t193 ji35).f1) ((rd_T39 t193 ji35).f2) ((rd_T39 t193 ji35).f3) t236 t237 t238 t239 t240 t241 t242 t243 t244 w _ ?side1 ?side2 A75.out).mono ?_); (case side1 => repeat (first | (with_reducible first | exact HI201.out | apply IsS63.alloc | apply IsS63.drewN | apply IsS63.drew | apply IsS63.set_0 | apply IsS63.set_1 | apply IsS63.set_2 | apply IsS63.set_3 | refine IsS63.far ?_ NB201_190.out _ | apply IsS63.far (hne := NB201_190.out) | refine IsS63.far ?_ NB201_232.out _ | apply IsS63.far (hne := NB201_232.out)) | exact HI201.out)); (case side2 => repeat (first | (with_reducible first | exact HB.out | apply below_alloc | apply pw_below_drewN | apply below_drew1 | refine below_set ?_ (IsS63.ge HI201.out) | refine below_set ?_ GE190.out | refine below_set ?_ GE232.out) | exact HB.out)); rintro e w106 ⟨rfl, hi, hb, hk⟩; refine ⟨_, rfl, ?_⟩; have n0_ := Aside0.mk (Kd.R_mono (Kd.R_keep (IsS63.apart (show IsS63 w _ g201 t228 t229 t230 t231 from by repeat (first | (with_reducible first | exact HI201.out | apply IsS63.alloc | apply IsS63.drewN | apply IsS63.drew | apply IsS63.set_0 | apply IsS63.set_1 | apply IsS63.set_2 | apply IsS63.set_3 | refine IsS63.far ?_ NB201_190.out _ | apply IsS63.far (hne := NB201_190.out) | refine IsS63.far ?_ NB201_232.out _ | apply IsS63.far (hne := NB201_232.out)) | exact HI201.out)) (by (with_reducible repeat (first | apply Kd.R_alloc | apply Kd.R_drewN | apply Kd.R_drew)); exact HO_7.out) (by decide)) hk (fun _ h => h.2)) (fun _ h => h.1)); have n1_ := Aside0.mk (KeepBut.blk hk (g' := gb190) (o := .cells #[.int .i64 a1_0, .int .i64 a1_1, .int .i64 a1_2, .string a1_3] 39 (0, 0)) (by (with_reducible repeat (first | refine blk_drewN ?_ _ | refine blk_drew ?_ | refine blk_alloc ?_ _)); exact BK190.out) NB190_201.out (by simp)); have n2_ := Aside0.mk (KeepBut.blk hk (g' := gb232) (o := .cells #[.int .i64 t223, .string t224, .bool t225] 41 (0, 0)) (by (with_reducible repeat (first | refine blk_drewN ?_ _ | refine blk_drew ?_ | refine blk_alloc ?_ _)); exact BK232.out) NB232_201.out (by simp)); have n3_ := Aside0.mk (hb); have n4_ := Aside0.mk (hi); clear HO_7; clear BK190; clear BK232; clear HB; clear HI201; have HO_7 := n0_; have BK190 := n1_; have BK232 := n2_; have HB := n3_; have HI201 := n4_; clear n0_ n1_ n2_ n3_ n4_; (try clear hb); (try clear hb2); (try clear hk); (try clear hi)) | ((with_reducible refine gate_dst (N := 22) rfl ?_); (try (refine gate_guard (by rfl) ?_; dsimp only)); refine box_event ?hg (N := 22) ?hd (cs := #[.int .i64 0, .string (⟨#[]⟩ : ByteArray), .bool false]) (t := 41) ?hr ?_; (case hd => rfl); (case hg => rfl); (case hr => first | (go_simp; done) | (go_simp; rfl)); intro gb245 hg w107 hbox hb; have n0_ := Aside0.mk (Kd.R_below (by (with_reducible repeat (first | apply Kd.R_alloc | apply Kd.R_drewN | apply Kd.R_drew)); exact HO_7.out) hb); have n1_ := Aside0.mk (blk_below (g := gb190) (o := .cells #[.int .i64 a1_0, .int .i64 a1_1, .int .i64 a1_2, .string a1_3] 39 (0, 0)) (by (with_reducible repeat (first | refine blk_drewN ?_ _ | refine blk_drew ?_ | refine blk_alloc ?_ _)); exact BK190.out) hb); have n2_ := Aside0.mk (blk_below (g := gb232) (o := .cells #[.int .i64 t223, .string t224, .bool t225] 41 (0, 0)) (by (with_reducible repeat (first | refine blk_drewN ?_ _ | refine blk_drew ?_ | refine blk_alloc ?_ _)); exact BK232.out) hb); have n3_ := Aside0.mk (IsS63.below (by repeat (first | (with_reducible first | exact HI201.out | apply IsS63.alloc | apply IsS63.drewN | apply IsS63.drew | apply IsS63.set_0 | apply IsS63.set_1 | apply IsS63.set_2 | apply IsS63.set_3 | refine IsS63.far ?_ NB201_190.out _ | apply IsS63.far (hne := NB201_190.out) | refine IsS63.far ?_ NB201_232.out _ | apply IsS63.far (hne := NB201_232.out)) | exact HI201.out)) hb); have n4_ := Aside0.mk (below_step (by repeat (first | (with_reducible first | exact HB.out | apply below_alloc | apply pw_below_drewN | apply below_drew1 | refine below_set ?_ (IsS63.ge HI201.out) | refine below_set ?_ GE190.out | refine below_set ?_ GE232.out) | exact HB.out)) hb); have n5_ := Aside0.mk (hbox); have n6_ := Aside0.mk ((by rw [hg]; exact (below_size (by repeat (first | (with_reducible first | exact HB.out | apply below_alloc | apply pw_below_drewN | apply below_drew1 | refine below_set ?_ (IsS63.ge HI201.out) | refine below_set ?_ GE190.out | refine below_set ?_ GE232.out) | exact HB.out))) : w.heap.size ≤ gb245)); have n7_ := Aside0.mk ((by rw [hg]; exact (below_size (by repeat (first | (with_reducible first | exact HB.out | apply below_alloc | apply pw_below_drewN | apply below_drew1 | refine below_set ?_ (IsS63.ge HI201.out) | refine below_set ?_ GE190.out | refine below_set ?_ GE232.out) | exact HB.out))) : w.heap.size ≤ gb245)); have n8_ := Aside0.mk ((by rw [hg]; exact Nat.ne_of_lt (blk_lt (g := gb190) (o := .cells #[.int .i64 a1_0, .int .i64 a1_1, .int .i64 a1_2, .string a1_3] 39 (0, 0)) (by (with_reducible repeat (first | refine blk_drewN ?_ _ | refine blk_drew ?_ | refine blk_alloc ?_ _)); exact BK190.out)) : gb190 ≠ gb245)); have n9_ := Aside0.mk ((by rw [hg]; exact Nat.ne_of_gt (blk_lt (g := gb190) (o := .cells #[.int .i64 a1_0, .int .i64 a1_1, .int .i64 a1_2, .string a1_3] 39 (0, 0)) (by (with_reducible repeat (first | refine blk_drewN ?_ _ | refine blk_drew ?_ | refine blk_alloc ?_ _)); exact BK190.out)) : gb245 ≠ gb190)); have n10_ := Aside0.mk ((by rw [hg]; exact Nat.ne_of_lt (blk_lt (g := gb232) (o := .cells #[.int .i64 t223, .string t224, .bool t225] 41 (0, 0)) (by (with_reducible repeat (first | refine blk_drewN ?_ _ | refine blk_drew ?_ | refine blk_alloc ?_ _)); exact BK232.out)) : gb232 ≠ gb245)); have n11_ := Aside0.mk ((by rw [hg]; exact Nat.ne_of_gt (blk_lt (g := gb232) (o := .cells #[.int .i64 t223, .string t224, .bool t225] 41 (0, 0)) (by (with_reducible repeat (first | refine blk_drewN ?_ _ | refine blk_drew ?_ | refine blk_alloc ?_ _)); exact BK232.out)) : gb245 ≠ gb232)); have n12_ := Aside0.mk ((by rw [hg]; exact Nat.ne_of_lt (IsS63.lt (show IsS63 w _ g201 t241 t242 t243 t244 from by repeat (first | (with_reducible first | exact HI201.out | apply IsS63.alloc | apply IsS63.drewN | apply IsS63.drew | apply IsS63.set_0 | apply IsS63.set_1 | apply IsS63.set_2 | apply IsS63.set_3 | refine IsS63.far ?_ NB201_190.out _ | apply IsS63.far (hne := NB201_190.out) | refine IsS63.far ?_ NB201_232.out _ | apply IsS63.far (hne := NB201_232.out)) | exact HI201.out))) : g201 ≠ gb245)); have n13_ := Aside0.mk ((by rw [hg]; exact Nat.ne_of_gt (IsS63.lt (show IsS63 w _ g201 t241 t242 t243 t244 from by repeat (first | (with_reducible first | exact HI201.out | apply IsS63.alloc | apply IsS63.drewN | apply IsS63.drew | apply IsS63.set_0 | apply IsS63.set_1 | apply IsS63.set_2 | apply IsS63.set_3 | refine IsS63.far ?_ NB201_190.out _ | apply IsS63.far (hne := NB201_190.out) | refine IsS63.far ?_ NB201_232.out _ | apply IsS63.far (hne := NB201_232.out)) | exact HI201.out))) : gb245 ≠ g201)); clear HO_7; clear BK190; clear BK232; clear HI201; clear HB; have HO_7 := n0_; have BK190 := n1_; have BK232 := n2_; have HI201 := n3_; have HB := n4_; have BK245 := n5_; have GW245 := n6_; have GE245 := n7_; have NB190_245 := n8_; have NB245_190 := n9_; have NB232_245 := n10_; have NB245_232 := n11_; have NB201_245 := n12_; have NB245_201 := n13_; clear n0_ n1_ n2_ n3_ n4_ n5_ n6_ n7_ n8_ n9_ n10_ n11_ n12_ n13_; clear hb hbox hg; have hnb108 := NB245_190.out; have hnc108 := NB190_245.out; have hnb109 := NB245_232.out; have hnc109 := NB232_245.out; have hnb110 := NB245_201.out; have hnc110 := NB201_245.out; have hcz111_0 : w107.cell? ⟨gb245, 0, none⟩ = some (.int .i64 0) := (blk_cell BK245.out 0).trans rfl; have hcz111_1 : w107.cell? ⟨gb245, 1, none⟩ = some (.string (⟨#[]⟩ : ByteArray)) := (blk_cell BK245.out 1).trans rfl; have hcz111_2 : w107.cell? ⟨gb245, 2, none⟩ = some (.bool false) := (blk_cell BK245.out 2).trans rfl; have hfz111_0 := blk_frozen BK245.out 0; have hfz111_1 := blk_frozen BK245.out 1; have hfz111_2 := blk_frozen BK245.out 2))
                   go_ret
                   exact ⟨by first | rfl | (simp [errW_none, errW_some] <;> rfl) | (simp only [← hji35]; first | rfl | (simp [errW_none, errW_some] <;> rfl)) | (simp [*, errW_none, errW_some] <;> rfl), by repeat (first | (with_reducible first | exact HB.out | apply below_alloc | apply pw_below_drewN | apply below_drew1 | refine below_set ?_ (IsS63.ge HI201.out) | refine below_set ?_ GE190.out | refine below_set ?_ GE232.out | refine below_set ?_ GE245.out) | exact HB.out)⟩
                ·rw [if_neg c74] at H
                 exact absurd H (by simp)
               ·rw [if_neg c73] at H
                exact absurd H (by simp)
         ·rw [if_neg c37] at H
          exact absurd H (by simp)
        ·rw [if_neg c36] at H
         exact absurd H (by simp)

end Go.Proofs.Ytdonanibfifodaa.PBlockBetween
