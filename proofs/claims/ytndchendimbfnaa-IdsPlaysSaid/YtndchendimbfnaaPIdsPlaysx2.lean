-- Written by a program of this session (the kit's printer, turned): the functions that the law reaches.
import Derived.Test.YtndchendimbfnaaPIdsPlaysx0
import Derived.Test.YtndchendimbfnaaPIdsPlaysx1
namespace Go.Proofs.Ytndchendimbfnaa.PIdsPlays
open Go.RowKit Go.Proofs.YtndchendimbfnaaW.PrintWords Go.Proofs.YtndchendimbfnaaW.PrintLast Go.Proofs.YtndchendimbfnaaW.PrintMore
attribute [local go_sem] max2_int min2_int max_two min_two max_three min_three max_four min_four   -- for this text's walks alone
set_option linter.unusedVariables false
set_option linter.unusedSimpArgs false

/-! ### bywashlaw18_IdsPlays: function 4 -/
mutual
def bywashlaw18_IdsPlays.j0 : Nat → Int → Int → List Int → Bool → Option (Bool)
  | 0, _, _, _, _ => none
  | k + 1, x0, x1, x2, x33 => if x33 = true then ((bywashlaw18_alive.f k).bind fun t129 => (some t129)) else ((ids_New.f x0).bind fun bt130 => (if x0 < 1 then (bywashlaw18_IdsPlays.j1 k x0 x1 x2 true bt130.1 bt130.2) else (if x0 > 2147483647 then (bywashlaw18_IdsPlays.j1 k x0 x1 x2 true bt130.1 bt130.2) else (bywashlaw18_IdsPlays.j1 k x0 x1 x2 ((Int.tmod x0 2) == 0) bt130.1 bt130.2))))
def bywashlaw18_IdsPlays.j1 : Nat → Int → Int → List Int → Bool → Int → Int → Option (Bool)
  | 0, _, _, _, _, _, _ => none
  | k + 1, x0, x1, x2, x47, x133000, x133001 => if x47 = true then (none) else (bywashlaw18_IdsPlays.l0 k x0 x1 x2 0 x133000 x133001 x0 x0)
def bywashlaw18_IdsPlays.l0 : Nat → Int → Int → List Int → Int → Int → Int → Int → Int → Option (Bool)
  | 0, _, _, _, _, _, _, _, _ => none
  | k + 1, x0, x1, x2, x12, x133000, x133001, x134000, x134001 => if x12 < x1 then ((ids_Ids_Left.f x133000 x133001).bind fun bt134 => (if bt134.1 = true then (if x134001 ≤ 2147483647 then ((ids_Ids_Next.f bt134.2.1 bt134.2.2).bind fun bt137 => ((bywashref1_Ids_Next.f x134000 x134001).bind fun bt141 => (if bt137.1 = bt141.1 then (if bt137.2.1 = true then (if bt141.2.1 = true then (bywashlaw18_IdsPlays.j3 k x0 x1 x2 x12 false bt137.2.2.1 bt137.2.2.2 bt141.2.2.1 bt141.2.2.2) else (bywashlaw18_IdsPlays.j3 k x0 x1 x2 x12 true bt137.2.2.1 bt137.2.2.2 bt141.2.2.1 bt141.2.2.2)) else (if bt141.2.1 = true then (bywashlaw18_IdsPlays.j3 k x0 x1 x2 x12 true bt137.2.2.1 bt137.2.2.2 bt141.2.2.1 bt141.2.2.2) else (bywashlaw18_IdsPlays.j3 k x0 x1 x2 x12 false bt137.2.2.1 bt137.2.2.2 bt141.2.2.1 bt141.2.2.2))) else (bywashlaw18_IdsPlays.j3 k x0 x1 x2 x12 true bt137.2.2.1 bt137.2.2.2 bt141.2.2.1 bt141.2.2.2)))) else (some false)) else (if x134001 ≤ 2147483647 then (some false) else ((ids_Ids_Next.f bt134.2.1 bt134.2.2).bind fun bt145 => ((bywashref1_Ids_Next.f x134000 x134001).bind fun bt149 => (if bt145.1 = bt149.1 then (if bt145.2.1 = true then (if bt149.2.1 = true then (bywashlaw18_IdsPlays.j4 k x0 x1 x2 x12 false bt145.2.2.1 bt145.2.2.2 bt149.2.2.1 bt149.2.2.2) else (bywashlaw18_IdsPlays.j4 k x0 x1 x2 x12 true bt145.2.2.1 bt145.2.2.2 bt149.2.2.1 bt149.2.2.2)) else (if bt149.2.1 = true then (bywashlaw18_IdsPlays.j4 k x0 x1 x2 x12 true bt145.2.2.1 bt145.2.2.2 bt149.2.2.1 bt149.2.2.2) else (bywashlaw18_IdsPlays.j4 k x0 x1 x2 x12 false bt145.2.2.1 bt145.2.2.2 bt149.2.2.1 bt149.2.2.2))) else (bywashlaw18_IdsPlays.j4 k x0 x1 x2 x12 true bt145.2.2.1 bt145.2.2.2 bt149.2.2.1 bt149.2.2.2))))))) else (if ([] : List Int).length + x2.length < 17592186044416 then ((some (([] : List Int) ++ x2 : List Int)).bind fun y153 => ((some (([x0, wrap64 (x0 - 2), x134001, wrap64 (x134001 - 2), 2147483647] : List Int) : List Int)).bind fun y156 => (if y153.length + y156.length < 17592186044416 then ((some (y153 ++ y156 : List Int)).bind fun y159 => (bywashlaw18_IdsPlays.l1 k y159 (y159.length : Int) 0 x133000 x133001 x134000 x134001)) else (none)))) else (none))
def bywashlaw18_IdsPlays.j3 : Nat → Int → Int → List Int → Int → Bool → Int → Int → Int → Int → Option (Bool)
  | 0, _, _, _, _, _, _, _, _, _ => none
  | k + 1, x0, x1, x2, x12, x105, x133000, x133001, x134000, x134001 => if x105 = true then (some false) else (bywashlaw18_IdsPlays.l0 k x0 x1 x2 (wrap64 (x12 + 1)) x133000 x133001 x134000 x134001)
def bywashlaw18_IdsPlays.j4 : Nat → Int → Int → List Int → Int → Bool → Int → Int → Int → Int → Option (Bool)
  | 0, _, _, _, _, _, _, _, _, _ => none
  | k + 1, x0, x1, x2, x12, x105, x133000, x133001, x134000, x134001 => if x105 = true then (some false) else (bywashlaw18_IdsPlays.l0 k x0 x1 x2 (wrap64 (x12 + 1)) x133000 x133001 x134000 x134001)
def bywashlaw18_IdsPlays.l1 : Nat → List Int → Int → Int → Int → Int → Int → Int → Option (Bool)
  | 0, _, _, _, _, _, _, _ => none
  | k + 1, x121, x122, x123, x133000, x133001, x134000, x134001 => if x123 < x122 then (if 0 ≤ x123 then (if x123 < (x121.length : Int) then ((ids_Ids_Kind.f k x133000 x133001 (rd x121 x123)).bind fun bt163 => ((bywashref1_Ids_Kind.f k x134000 x134001 (rd x121 x123)).bind fun bt166 => (if bt163.1 = bt166.1 then (bywashlaw18_IdsPlays.l1 k x121 x122 (wrap64 (x123 + 1)) bt163.2.1 bt163.2.2 bt166.2.1 bt166.2.2) else (some false)))) else (none)) else (none)) else (some true)
end
def bywashlaw18_IdsPlays.f (k : Nat) (a0 : Int) (a1 : Int) (l2 : List Int) : Option (Bool) := if a1 < 0 then (bywashlaw18_IdsPlays.j0 k a0 a1 l2 true) else (if a1 > 300 then (bywashlaw18_IdsPlays.j0 k a0 a1 l2 true) else (if (l2.length : Int) > 60 then (bywashlaw18_IdsPlays.j0 k a0 a1 l2 true) else ((bywashlaw18_alive.f k).bind fun t128 => (bywashlaw18_IdsPlays.j0 k a0 a1 l2 (!t128)))))
theorem bywashlaw18_IdsPlays.mono_l : ∀ k, (∀ y0 y1 y2 y3, LeO (bywashlaw18_IdsPlays.j0 k y0 y1 y2 y3) (bywashlaw18_IdsPlays.j0 (k + 1) y0 y1 y2 y3)) ∧ (∀ y0 y1 y2 y3 y4 y5, LeO (bywashlaw18_IdsPlays.j1 k y0 y1 y2 y3 y4 y5) (bywashlaw18_IdsPlays.j1 (k + 1) y0 y1 y2 y3 y4 y5)) ∧ (∀ y0 y1 y2 y3 y4 y5 y6 y7, LeO (bywashlaw18_IdsPlays.l0 k y0 y1 y2 y3 y4 y5 y6 y7) (bywashlaw18_IdsPlays.l0 (k + 1) y0 y1 y2 y3 y4 y5 y6 y7)) ∧ (∀ y0 y1 y2 y3 y4 y5 y6 y7 y8, LeO (bywashlaw18_IdsPlays.j3 k y0 y1 y2 y3 y4 y5 y6 y7 y8) (bywashlaw18_IdsPlays.j3 (k + 1) y0 y1 y2 y3 y4 y5 y6 y7 y8)) ∧ (∀ y0 y1 y2 y3 y4 y5 y6 y7 y8, LeO (bywashlaw18_IdsPlays.j4 k y0 y1 y2 y3 y4 y5 y6 y7 y8) (bywashlaw18_IdsPlays.j4 (k + 1) y0 y1 y2 y3 y4 y5 y6 y7 y8)) ∧ (∀ y0 y1 y2 y3 y4 y5 y6, LeO (bywashlaw18_IdsPlays.l1 k y0 y1 y2 y3 y4 y5 y6) (bywashlaw18_IdsPlays.l1 (k + 1) y0 y1 y2 y3 y4 y5 y6))
  | 0 => ⟨fun _ _ _ _ r h => by simp [bywashlaw18_IdsPlays.j0] at h, fun _ _ _ _ _ _ r h => by simp [bywashlaw18_IdsPlays.j1] at h, fun _ _ _ _ _ _ _ _ r h => by simp [bywashlaw18_IdsPlays.l0] at h, fun _ _ _ _ _ _ _ _ _ r h => by simp [bywashlaw18_IdsPlays.j3] at h, fun _ _ _ _ _ _ _ _ _ r h => by simp [bywashlaw18_IdsPlays.j4] at h, fun _ _ _ _ _ _ _ r h => by simp [bywashlaw18_IdsPlays.l1] at h⟩
  | k + 1 => by
    obtain ⟨ih0, ih1, ih2, ih3, ih4, ih5⟩ := bywashlaw18_IdsPlays.mono_l k
    refine ⟨?_, ?_, ?_, ?_, ?_, ?_⟩
    · intro y0 y1 y2 y3
      unfold bywashlaw18_IdsPlays.j0
      repeat' first
      | (with_reducible exact ih0 _ _ _ _)
      | (with_reducible exact ih1 _ _ _ _ _ _)
      | (with_reducible exact ih2 _ _ _ _ _ _ _ _)
      | (with_reducible exact ih3 _ _ _ _ _ _ _ _ _)
      | (with_reducible exact ih4 _ _ _ _ _ _ _ _ _)
      | (with_reducible exact ih5 _ _ _ _ _ _ _)
      | (with_reducible exact bywashlaw18_alive.mono _)
      | (with_reducible exact bywashref1_Ids_Kind.mono _ _ _ _)
      | (with_reducible exact ids_Ids_Kind.mono _ _ _ _)
      | (with_reducible exact LeO.refl _)
      | (with_reducible exact LeO.none _)
      | (with_reducible refine LeO.ite ?_ ?_)
      | (with_reducible refine LeO.bind ?_ (fun _ => ?_))
      | exact ih0 _ _ _ _
      | exact ih1 _ _ _ _ _ _
      | exact ih2 _ _ _ _ _ _ _ _
      | exact ih3 _ _ _ _ _ _ _ _ _
      | exact ih4 _ _ _ _ _ _ _ _ _
      | exact ih5 _ _ _ _ _ _ _
      | exact bywashlaw18_alive.mono _
      | exact bywashref1_Ids_Kind.mono _ _ _ _
      | exact ids_Ids_Kind.mono _ _ _ _
      | exact LeO.none _
      | refine LeO.ite ?_ ?_
      | refine LeO.bind ?_ (fun _ => ?_)
    · intro y0 y1 y2 y3 y4 y5
      unfold bywashlaw18_IdsPlays.j1
      repeat' first
      | (with_reducible exact ih0 _ _ _ _)
      | (with_reducible exact ih1 _ _ _ _ _ _)
      | (with_reducible exact ih2 _ _ _ _ _ _ _ _)
      | (with_reducible exact ih3 _ _ _ _ _ _ _ _ _)
      | (with_reducible exact ih4 _ _ _ _ _ _ _ _ _)
      | (with_reducible exact ih5 _ _ _ _ _ _ _)
      | (with_reducible exact bywashlaw18_alive.mono _)
      | (with_reducible exact bywashref1_Ids_Kind.mono _ _ _ _)
      | (with_reducible exact ids_Ids_Kind.mono _ _ _ _)
      | (with_reducible exact LeO.refl _)
      | (with_reducible exact LeO.none _)
      | (with_reducible refine LeO.ite ?_ ?_)
      | (with_reducible refine LeO.bind ?_ (fun _ => ?_))
      | exact ih0 _ _ _ _
      | exact ih1 _ _ _ _ _ _
      | exact ih2 _ _ _ _ _ _ _ _
      | exact ih3 _ _ _ _ _ _ _ _ _
      | exact ih4 _ _ _ _ _ _ _ _ _
      | exact ih5 _ _ _ _ _ _ _
      | exact bywashlaw18_alive.mono _
      | exact bywashref1_Ids_Kind.mono _ _ _ _
      | exact ids_Ids_Kind.mono _ _ _ _
      | exact LeO.none _
      | refine LeO.ite ?_ ?_
      | refine LeO.bind ?_ (fun _ => ?_)
    · intro y0 y1 y2 y3 y4 y5 y6 y7
      unfold bywashlaw18_IdsPlays.l0
      repeat' first
      | (with_reducible exact ih0 _ _ _ _)
      | (with_reducible exact ih1 _ _ _ _ _ _)
      | (with_reducible exact ih2 _ _ _ _ _ _ _ _)
      | (with_reducible exact ih3 _ _ _ _ _ _ _ _ _)
      | (with_reducible exact ih4 _ _ _ _ _ _ _ _ _)
      | (with_reducible exact ih5 _ _ _ _ _ _ _)
      | (with_reducible exact bywashlaw18_alive.mono _)
      | (with_reducible exact bywashref1_Ids_Kind.mono _ _ _ _)
      | (with_reducible exact ids_Ids_Kind.mono _ _ _ _)
      | (with_reducible exact LeO.refl _)
      | (with_reducible exact LeO.none _)
      | (with_reducible refine LeO.ite ?_ ?_)
      | (with_reducible refine LeO.bind ?_ (fun _ => ?_))
      | exact ih0 _ _ _ _
      | exact ih1 _ _ _ _ _ _
      | exact ih2 _ _ _ _ _ _ _ _
      | exact ih3 _ _ _ _ _ _ _ _ _
      | exact ih4 _ _ _ _ _ _ _ _ _
      | exact ih5 _ _ _ _ _ _ _
      | exact bywashlaw18_alive.mono _
      | exact bywashref1_Ids_Kind.mono _ _ _ _
      | exact ids_Ids_Kind.mono _ _ _ _
      | exact LeO.none _
      | refine LeO.ite ?_ ?_
      | refine LeO.bind ?_ (fun _ => ?_)
    · intro y0 y1 y2 y3 y4 y5 y6 y7 y8
      unfold bywashlaw18_IdsPlays.j3
      repeat' first
      | (with_reducible exact ih0 _ _ _ _)
      | (with_reducible exact ih1 _ _ _ _ _ _)
      | (with_reducible exact ih2 _ _ _ _ _ _ _ _)
      | (with_reducible exact ih3 _ _ _ _ _ _ _ _ _)
      | (with_reducible exact ih4 _ _ _ _ _ _ _ _ _)
      | (with_reducible exact ih5 _ _ _ _ _ _ _)
      | (with_reducible exact bywashlaw18_alive.mono _)
      | (with_reducible exact bywashref1_Ids_Kind.mono _ _ _ _)
      | (with_reducible exact ids_Ids_Kind.mono _ _ _ _)
      | (with_reducible exact LeO.refl _)
      | (with_reducible exact LeO.none _)
      | (with_reducible refine LeO.ite ?_ ?_)
      | (with_reducible refine LeO.bind ?_ (fun _ => ?_))
      | exact ih0 _ _ _ _
      | exact ih1 _ _ _ _ _ _
      | exact ih2 _ _ _ _ _ _ _ _
      | exact ih3 _ _ _ _ _ _ _ _ _
      | exact ih4 _ _ _ _ _ _ _ _ _
      | exact ih5 _ _ _ _ _ _ _
      | exact bywashlaw18_alive.mono _
      | exact bywashref1_Ids_Kind.mono _ _ _ _
      | exact ids_Ids_Kind.mono _ _ _ _
      | exact LeO.none _
      | refine LeO.ite ?_ ?_
      | refine LeO.bind ?_ (fun _ => ?_)
    · intro y0 y1 y2 y3 y4 y5 y6 y7 y8
      unfold bywashlaw18_IdsPlays.j4
      repeat' first
      | (with_reducible exact ih0 _ _ _ _)
      | (with_reducible exact ih1 _ _ _ _ _ _)
      | (with_reducible exact ih2 _ _ _ _ _ _ _ _)
      | (with_reducible exact ih3 _ _ _ _ _ _ _ _ _)
      | (with_reducible exact ih4 _ _ _ _ _ _ _ _ _)
      | (with_reducible exact ih5 _ _ _ _ _ _ _)
      | (with_reducible exact bywashlaw18_alive.mono _)
      | (with_reducible exact bywashref1_Ids_Kind.mono _ _ _ _)
      | (with_reducible exact ids_Ids_Kind.mono _ _ _ _)
      | (with_reducible exact LeO.refl _)
      | (with_reducible exact LeO.none _)
      | (with_reducible refine LeO.ite ?_ ?_)
      | (with_reducible refine LeO.bind ?_ (fun _ => ?_))
      | exact ih0 _ _ _ _
      | exact ih1 _ _ _ _ _ _
      | exact ih2 _ _ _ _ _ _ _ _
      | exact ih3 _ _ _ _ _ _ _ _ _
      | exact ih4 _ _ _ _ _ _ _ _ _
      | exact ih5 _ _ _ _ _ _ _
      | exact bywashlaw18_alive.mono _
      | exact bywashref1_Ids_Kind.mono _ _ _ _
      | exact ids_Ids_Kind.mono _ _ _ _
      | exact LeO.none _
      | refine LeO.ite ?_ ?_
      | refine LeO.bind ?_ (fun _ => ?_)
    · intro y0 y1 y2 y3 y4 y5 y6
      unfold bywashlaw18_IdsPlays.l1
      repeat' first
      | (with_reducible exact ih0 _ _ _ _)
      | (with_reducible exact ih1 _ _ _ _ _ _)
      | (with_reducible exact ih2 _ _ _ _ _ _ _ _)
      | (with_reducible exact ih3 _ _ _ _ _ _ _ _ _)
      | (with_reducible exact ih4 _ _ _ _ _ _ _ _ _)
      | (with_reducible exact ih5 _ _ _ _ _ _ _)
      | (with_reducible exact bywashlaw18_alive.mono _)
      | (with_reducible exact bywashref1_Ids_Kind.mono _ _ _ _)
      | (with_reducible exact ids_Ids_Kind.mono _ _ _ _)
      | (with_reducible exact LeO.refl _)
      | (with_reducible exact LeO.none _)
      | (with_reducible refine LeO.ite ?_ ?_)
      | (with_reducible refine LeO.bind ?_ (fun _ => ?_))
      | exact ih0 _ _ _ _
      | exact ih1 _ _ _ _ _ _
      | exact ih2 _ _ _ _ _ _ _ _
      | exact ih3 _ _ _ _ _ _ _ _ _
      | exact ih4 _ _ _ _ _ _ _ _ _
      | exact ih5 _ _ _ _ _ _ _
      | exact bywashlaw18_alive.mono _
      | exact bywashref1_Ids_Kind.mono _ _ _ _
      | exact ids_Ids_Kind.mono _ _ _ _
      | exact LeO.none _
      | refine LeO.ite ?_ ?_
      | refine LeO.bind ?_ (fun _ => ?_)
theorem bywashlaw18_IdsPlays.mono : ∀ a0 a1 a2 k, LeO (bywashlaw18_IdsPlays.f k a0 a1 a2) (bywashlaw18_IdsPlays.f (k + 1) a0 a1 a2) := by
  intro a0 a1 a2 k
  obtain ⟨ih0, ih1, ih2, ih3, ih4, ih5⟩ := bywashlaw18_IdsPlays.mono_l k
  unfold bywashlaw18_IdsPlays.f
  repeat' first
      | (with_reducible exact ih0 _ _ _ _)
      | (with_reducible exact ih1 _ _ _ _ _ _)
      | (with_reducible exact ih2 _ _ _ _ _ _ _ _)
      | (with_reducible exact ih3 _ _ _ _ _ _ _ _ _)
      | (with_reducible exact ih4 _ _ _ _ _ _ _ _ _)
      | (with_reducible exact ih5 _ _ _ _ _ _ _)
      | (with_reducible exact bywashlaw18_alive.mono _)
      | (with_reducible exact bywashref1_Ids_Kind.mono _ _ _ _)
      | (with_reducible exact ids_Ids_Kind.mono _ _ _ _)
      | (with_reducible exact LeO.refl _)
      | (with_reducible exact LeO.none _)
      | (with_reducible refine LeO.ite ?_ ?_)
      | (with_reducible refine LeO.bind ?_ (fun _ => ?_))
      | exact ih0 _ _ _ _
      | exact ih1 _ _ _ _ _ _
      | exact ih2 _ _ _ _ _ _ _ _
      | exact ih3 _ _ _ _ _ _ _ _ _
      | exact ih4 _ _ _ _ _ _ _ _ _
      | exact ih5 _ _ _ _ _ _ _
      | exact bywashlaw18_alive.mono _
      | exact bywashref1_Ids_Kind.mono _ _ _ _
      | exact ids_Ids_Kind.mono _ _ _ _
      | exact LeO.none _
      | refine LeO.ite ?_ ?_
      | refine LeO.bind ?_ (fun _ => ?_)
def bywashlaw18_IdsPlays.T14 : Bool × List (List Nat × List Nat) := (true, [([], []), ([0], [0]), ([], []), ([2], [2]), ([3], [3]), ([4], [4]), ([5], [5]), ([1, 6], [1, 6])])
def bywashlaw18_IdsPlays.B14 : List Nat := [0, 1, 0, 4, 12, 28, 60, 127]
theorem bywashlaw18_IdsPlays.tab14 : rtab .any (opsOf Try.f4 14) = bywashlaw18_IdsPlays.T14 := by kernel_rfl
theorem bywashlaw18_IdsPlays.bits14 : waitsOk bywashlaw18_IdsPlays.T14.2 bywashlaw18_IdsPlays.B14 = true := by kernel_rfl
def bywashlaw18_IdsPlays.T20 : Bool × List (List Nat × List Nat) := (true, [([], []), ([0], [0]), ([], []), ([], []), ([3], [3]), ([], []), ([5], [5]), ([6], [6]), ([7], [7]), ([], []), ([9], [9]), ([10], [10]), ([11], [11]), ([12], [12]), ([2, 4, 8, 13], [2, 4, 8, 13]), ([1, 14, 1], [1, 14]), ([15], [15]), ([], [])])
def bywashlaw18_IdsPlays.B20 : List Nat := [0, 1, 0, 0, 8, 0, 32, 96, 224, 0, 512, 1536, 3584, 7680, 16380, 32767, 65535, 0]
theorem bywashlaw18_IdsPlays.tab20 : rtab .any (opsOf Try.f4 20) = bywashlaw18_IdsPlays.T20 := by kernel_rfl
theorem bywashlaw18_IdsPlays.bits20 : waitsOk bywashlaw18_IdsPlays.T20.2 bywashlaw18_IdsPlays.B20 = true := by kernel_rfl
set_option maxHeartbeats 8000000 in
set_option maxRecDepth 100000 in
theorem bywashlaw18_IdsPlays.calls (k : Nat) (a0 : Int) (a1 : Int) (A2 : Option Addr) (c2 : Nat) (l2 : List Int) (r : Bool) (w : World) (hr2 : Kd.C (Kd.int .i64) w A2 l2.length l2) (hc2 : l2.length ≤ c2) (h : bywashlaw18_IdsPlays.f k a0 a1 l2 = some r) :
    Calls Try.prog 4 #[.int .i64 a0, .int .i64 a1, .slice A2 l2.length c2] w fun e w' => e = .returned (.bool r) ∧ Below w.heap.size w w' := by
  have hu46 := Try.underlying46
  have HR2 := Aside0.mk hr2
  have HC2 := Aside0.mk hc2
  clear hr2 hc2
  have HB := Aside0.mk (Below.refl w.heap.size w)
  have H : (if a1 < 0 then (bywashlaw18_IdsPlays.j0 k a0 a1 l2 true) else (if a1 > 300 then (bywashlaw18_IdsPlays.j0 k a0 a1 l2 true) else (if (l2.length : Int) > 60 then (bywashlaw18_IdsPlays.j0 k a0 a1 l2 true) else ((bywashlaw18_alive.f k).bind fun t128 => (bywashlaw18_IdsPlays.j0 k a0 a1 l2 (!t128)))))) = some r := h
  clear h
  have HC4 := Aside0.mk H
  clear H
  go_enter Try.func4, Try.ntmps4
  go_upto_region 1 with (fail)
  go_cut [33] (fun v33 wc => ∃ (kq : Nat) (x33_3 : Bool), v33 = .bool x33_3 ∧ Aside0 (bywashlaw18_IdsPlays.j0 kq a0 a1 l2 x33_3 = some r) ∧ Aside0 (kq ≤ k) ∧ Aside0 (Below w.heap.size w wc))
  case first =>
    have H := HC4.out
    clear HC4
    by_cases c5 : a1 < 0
    · rw [if_pos c5] at H
      have c5b0 : decide (a1 < 0) = true := decide_eq_true c5
      clear c5
      (first | rw [c5b0] | (simp only [i64_w, i32_w]; rw [c5b0]) | skip)
      have H' := Aside0.mk H
      clear H
      go_wp2
      go_meet
      case rel => exact ⟨_, (true), (by first | rfl | (simp; done) | (simp [*]; done)), H', ⟨by first | omega | exact Nat.le_refl _⟩, ⟨by repeat (first | (with_reducible first | exact HB.out | apply below_alloc | apply pw_below_drewN | apply below_drew1) | exact HB.out)⟩⟩
    · rw [if_neg c5] at H
      have c5b0 : decide (a1 < 0) = false := decide_eq_false c5
      clear c5
      (first | rw [c5b0] | (simp only [i64_w, i32_w]; rw [c5b0]) | skip)
      by_cases c6 : a1 > 300
      · rw [if_pos c6] at H
        have c6b0 : decide (300 < a1) = true := decide_eq_true c6
        clear c6
        have H' := Aside0.mk H
        clear H
        go_wp2
        go_meet
        case rel => exact ⟨_, (true), (by first | rfl | (simp; done) | (simp [*]; done)), H', ⟨by first | omega | exact Nat.le_refl _⟩, ⟨by repeat (first | (with_reducible first | exact HB.out | apply below_alloc | apply pw_below_drewN | apply below_drew1) | exact HB.out)⟩⟩
      · rw [if_neg c6] at H
        have c6b0 : decide (300 < a1) = false := decide_eq_false c6
        clear c6
        by_cases c7 : (l2.length : Int) > 60
        · rw [if_pos c7] at H
          have c7b0 : decide (60 < (l2.length : Int)) = true := decide_eq_true c7
          have c7b1 : decide (60 < l2.length) = true := decide_eq_true (by omega)
          clear c7
          have H' := Aside0.mk H
          clear H
          go_wp2
          go_meet
          case rel => exact ⟨_, (true), (by first | rfl | (simp; done) | (simp [*]; done)), H', ⟨by first | omega | exact Nat.le_refl _⟩, ⟨by repeat (first | (with_reducible first | exact HB.out | apply below_alloc | apply pw_below_drewN | apply below_drew1) | exact HB.out)⟩⟩
        · rw [if_neg c7] at H
          have c7b0 : decide (60 < (l2.length : Int)) = false := decide_eq_false c7
          have c7b1 : decide (60 < l2.length) = false := decide_eq_false (by omega)
          clear c7
          replace H := Option.bind_eq_some_iff.mp H
          obtain ⟨t128, A80, H⟩ := H
          replace H : (bywashlaw18_IdsPlays.j0 k a0 a1 l2 (!t128)) = some r := H
          have A8 := Aside0.mk A80
          clear A80
          have H' := Aside0.mk H
          clear H
          go_wp2_with (first | (go_at_call 12; (with_reducible refine (bywashlaw18_alive.calls k  t128 _ A8.out).mono ?_); rintro e w9 ⟨rfl, hb⟩; have n0_ := Aside0.mk (below_step (by repeat (first | (with_reducible first | exact HB.out | apply below_alloc | apply pw_below_drewN | apply below_drew1) | exact HB.out)) hb); clear HB; have HB := n0_; clear n0_; (try clear hb); (try clear hb2); (try clear hk); (try clear hi)))
          go_meet
          case rel => exact ⟨_, (!t128), (by first | rfl | (simp; done) | (simp [*]; done)), H', ⟨by first | omega | exact Nat.le_refl _⟩, ⟨by repeat (first | (with_reducible first | exact HB.out | apply below_alloc | apply pw_below_drewN | apply below_drew1) | exact HB.out)⟩⟩
  case rest =>
    clear HC4
    try clear c2
    try clear p2
    try clear c4
    try clear c5
    try clear c5b0
    try clear c6
    try clear c6b0
    try clear c7
    try clear c7b0
    try clear c7b1
    obtain ⟨kq, x33_3, rfl, HA, HJ3, HB⟩ := hcut
    cases kq with
    | zero => exact absurd HA.out (by simp [bywashlaw18_IdsPlays.j0])
    | succ kj3 =>
      have H := HA.out
      clear HA
      simp only [bywashlaw18_IdsPlays.j0] at H
      by_cases c10 : x33_3 = true
      · subst c10
        have H1 : ((bywashlaw18_alive.f kj3).bind fun t129 => (some t129)) = some r := by rw [if_pos rfl] at H; exact H
        clear H
        have H := H1
        clear H1
        replace H := Option.bind_eq_some_iff.mp H
        obtain ⟨t129, A110, H⟩ := H
        replace H : (some t129) = some r := H
        have A11 := Aside0.mk A110
        clear A110
        obtain rfl := Option.some.inj H
        go_wp2_with (first | ((with_reducible refine gate_callee (f := 12) rfl ?_); refine goesL_ (some 34) rfl rfl Try.func12 (by kernel_rfl) rfl #[] rfl (by (try simp only [List.map_toArray, List.map_cons, List.map_nil]); first | done | rfl | (simp only [List.length_drop, List.length_take]; rfl)) ?_; (with_reducible refine (bywashlaw18_alive.calls kj3  t129 _ A11.out).mono ?_); rintro e w12 ⟨rfl, hb⟩; refine ⟨_, rfl, ?_⟩; have n0_ := Aside0.mk (below_step (by repeat (first | (with_reducible first | exact HB.out | apply below_alloc | apply pw_below_drewN | apply below_drew1) | exact HB.out)) hb); clear HB; have HB := n0_; clear n0_; (try clear hb); (try clear hb2); (try clear hk); (try clear hi)))
        go_ret
        exact ⟨by first | rfl | (simp [errW_none, errW_some] <;> rfl) | (simp [*, errW_none, errW_some] <;> rfl), by repeat (first | (with_reducible first | exact HB.out | apply below_alloc | apply pw_below_drewN | apply below_drew1) | exact HB.out)⟩
      · replace c10 := Bool.eq_false_iff.mpr c10
        subst c10
        have H1 : ((ids_New.f a0).bind fun bt130 => (if a0 < 1 then (bywashlaw18_IdsPlays.j1 kj3 a0 a1 l2 true bt130.1 bt130.2) else (if a0 > 2147483647 then (bywashlaw18_IdsPlays.j1 kj3 a0 a1 l2 true bt130.1 bt130.2) else (bywashlaw18_IdsPlays.j1 kj3 a0 a1 l2 ((Int.tmod a0 2) == 0) bt130.1 bt130.2)))) = some r := by rw [if_neg (show ¬ (false = true) by decide)] at H; exact H
        clear H
        have H := H1
        clear H1
        replace H := Option.bind_eq_some_iff.mp H
        obtain ⟨⟨t130, t131⟩, A130, H⟩ := H
        replace H : (if a0 < 1 then (bywashlaw18_IdsPlays.j1 kj3 a0 a1 l2 true t130 t131) else (if a0 > 2147483647 then (bywashlaw18_IdsPlays.j1 kj3 a0 a1 l2 true t130 t131) else (bywashlaw18_IdsPlays.j1 kj3 a0 a1 l2 ((Int.tmod a0 2) == 0) t130 t131))) = some r := H
        have A13 := Aside0.mk A130
        clear A130
        have HC14 := Aside0.mk H
        clear H
        go_upto_region 4 with (first | ((with_reducible refine gate_callee (f := 13) rfl ?_); refine goesL_ (some 36) rfl rfl Try.func13 (by kernel_rfl) rfl #[.int .i64 a0] rfl (by (try simp only [List.map_toArray, List.map_cons, List.map_nil]); first | done | rfl | (simp only [List.length_drop, List.length_take]; rfl)) ?_; (with_reducible refine (ids_New.calls a0 t130 t131 w _ ?side1 A13.out).mono ?_); (case side1 => repeat (first | (with_reducible first | exact HB.out | apply below_alloc | apply pw_below_drewN | apply below_drew1) | exact HB.out)); rintro e w15 ⟨g132, rfl, hi, hb, hb2⟩; refine ⟨_, rfl, ?_⟩; have n0_ := Aside0.mk (hb); have n1_ := Aside0.mk (hi); clear HB; have HB := n0_; have HI132 := n1_; clear n0_ n1_; (try clear hb); (try clear hb2); (try clear hk); (try clear hi)))
        (try simp only [Act.put, List.setIfInBounds_toArray, List.set_cons_zero, List.set_cons_succ])
        go_cut [47] (fun v47 wc => ∃ (kq : Nat) (x47_13 : Bool), v47 = .bool x47_13 ∧ Aside0 (bywashlaw18_IdsPlays.j1 kq a0 a1 l2 x47_13 t130 t131 = some r) ∧ Aside0 (kq ≤ kj3) ∧ Aside0 (IsS92 w wc g132 t130 t131) ∧ Aside0 (Below w.heap.size w wc))
        case first =>
          have H := HC14.out
          clear HC14
          by_cases c16 : a0 < 1
          · rw [if_pos c16] at H
            have c16b0 : decide (a0 < 1) = true := decide_eq_true c16
            clear c16
            (first | rw [c16b0] | (simp only [i64_w, i32_w]; rw [c16b0]) | skip)
            have H' := Aside0.mk H
            clear H
            go_wp2
            go_meet
            case rel => exact ⟨_, (true), (by first | rfl | (simp; done) | (simp [*]; done)), H', ⟨by have := HJ3.out; first | omega | exact Nat.le_refl _⟩, ⟨by repeat (first | (with_reducible first | exact HI132.out | apply IsS92.alloc | apply IsS92.drewN | apply IsS92.drew | apply IsS92.set_0 | apply IsS92.set_1) | exact HI132.out)⟩, ⟨by repeat (first | (with_reducible first | exact HB.out | apply below_alloc | apply pw_below_drewN | apply below_drew1 | refine below_set ?_ (IsS92.ge HI132.out)) | exact HB.out)⟩⟩
          · rw [if_neg c16] at H
            have c16b0 : decide (a0 < 1) = false := decide_eq_false c16
            clear c16
            (first | rw [c16b0] | (simp only [i64_w, i32_w]; rw [c16b0]) | skip)
            by_cases c17 : a0 > 2147483647
            · rw [if_pos c17] at H
              have c17b0 : decide (2147483647 < a0) = true := decide_eq_true c17
              clear c17
              have H' := Aside0.mk H
              clear H
              go_wp2
              go_meet
              case rel => exact ⟨_, (true), (by first | rfl | (simp; done) | (simp [*]; done)), H', ⟨by have := HJ3.out; first | omega | exact Nat.le_refl _⟩, ⟨by repeat (first | (with_reducible first | exact HI132.out | apply IsS92.alloc | apply IsS92.drewN | apply IsS92.drew | apply IsS92.set_0 | apply IsS92.set_1) | exact HI132.out)⟩, ⟨by repeat (first | (with_reducible first | exact HB.out | apply below_alloc | apply pw_below_drewN | apply below_drew1 | refine below_set ?_ (IsS92.ge HI132.out)) | exact HB.out)⟩⟩
            · rw [if_neg c17] at H
              have c17b0 : decide (2147483647 < a0) = false := decide_eq_false c17
              clear c17
              have H' := Aside0.mk H
              clear H
              go_wp2
              go_meet
              case rel => exact ⟨_, (((Int.tmod a0 2) == 0)), (by first | rfl | (simp; done) | (simp [*]; done)), H', ⟨by have := HJ3.out; first | omega | exact Nat.le_refl _⟩, ⟨by repeat (first | (with_reducible first | exact HI132.out | apply IsS92.alloc | apply IsS92.drewN | apply IsS92.drew | apply IsS92.set_0 | apply IsS92.set_1) | exact HI132.out)⟩, ⟨by repeat (first | (with_reducible first | exact HB.out | apply below_alloc | apply pw_below_drewN | apply below_drew1 | refine below_set ?_ (IsS92.ge HI132.out)) | exact HB.out)⟩⟩
        case rest =>
          clear HC14
          try clear c1
          try clear c2
          try clear p2
          try clear c4
          try clear c5
          try clear c5b0
          try clear c6
          try clear c6b0
          try clear c7
          try clear c7b0
          try clear c7b1
          try clear c10
          try clear c12
          try clear c13
          try clear c16
          try clear c16b0
          try clear c17
          try clear c17b0
          try clear p2
          obtain ⟨kq, x47_13, rfl, HA, HJ13, HI132, HB⟩ := hcut
          cases kq with
          | zero => exact absurd HA.out (by simp [bywashlaw18_IdsPlays.j1])
          | succ kj13 =>
            have H := HA.out
            clear HA
            simp only [bywashlaw18_IdsPlays.j1] at H
            by_cases c18 : x47_13 = true
            · subst c18
              have H1 : (none) = some r := by rw [if_pos rfl] at H; exact H
              clear H
              have H := H1
              clear H1
              exact absurd H (by simp)
            · replace c18 := Bool.eq_false_iff.mpr c18
              subst c18
              have H1 : (bywashlaw18_IdsPlays.l0 kj13 a0 a1 l2 0 t130 t131 a0 a0) = some r := by rw [if_neg (show ¬ (false = true) by decide)] at H; exact H
              clear H
              have H := H1
              clear H1
              have H' := Aside0.mk H
              clear H
              go_wp2_with (first | ((with_reducible refine gate_dst (N := 74) rfl ?_); (try (refine gate_guard (by rfl) ?_; dsimp only)); refine box_event ?hg (N := 74) ?hd (cs := #[.int .i64 a0, .int .i64 a0]) (t := 46) ?hr ?_; (case hd => rfl); (case hg => rfl); (case hr => first | (go_simp; done) | (go_simp; rfl)); intro gb133 hg w19 hbox hb; have n0_ := Aside0.mk (IsS92.below (by repeat (first | (with_reducible first | exact HI132.out | apply IsS92.alloc | apply IsS92.drewN | apply IsS92.drew | apply IsS92.set_0 | apply IsS92.set_1) | exact HI132.out)) hb); have n1_ := Aside0.mk (below_step (by repeat (first | (with_reducible first | exact HB.out | apply below_alloc | apply pw_below_drewN | apply below_drew1 | refine below_set ?_ (IsS92.ge HI132.out)) | exact HB.out)) hb); have n2_ := Aside0.mk (hbox); have n3_ := Aside0.mk ((by rw [hg]; exact (below_size (by repeat (first | (with_reducible first | exact HB.out | apply below_alloc | apply pw_below_drewN | apply below_drew1 | refine below_set ?_ (IsS92.ge HI132.out)) | exact HB.out))) : w.heap.size ≤ gb133)); have n4_ := Aside0.mk ((by rw [hg]; exact (below_size (by repeat (first | (with_reducible first | exact HB.out | apply below_alloc | apply pw_below_drewN | apply below_drew1 | refine below_set ?_ (IsS92.ge HI132.out)) | exact HB.out))) : w.heap.size ≤ gb133)); have n5_ := Aside0.mk ((by rw [hg]; exact Nat.ne_of_lt (IsS92.lt (show IsS92 w _ g132 t130 t131 from by repeat (first | (with_reducible first | exact HI132.out | apply IsS92.alloc | apply IsS92.drewN | apply IsS92.drew | apply IsS92.set_0 | apply IsS92.set_1) | exact HI132.out))) : g132 ≠ gb133)); have n6_ := Aside0.mk ((by rw [hg]; exact Nat.ne_of_gt (IsS92.lt (show IsS92 w _ g132 t130 t131 from by repeat (first | (with_reducible first | exact HI132.out | apply IsS92.alloc | apply IsS92.drewN | apply IsS92.drew | apply IsS92.set_0 | apply IsS92.set_1) | exact HI132.out))) : gb133 ≠ g132)); clear HI132; clear HB; have HI132 := n0_; have HB := n1_; have BK133 := n2_; have GW133 := n3_; have GE133 := n4_; have NB132_133 := n5_; have NB133_132 := n6_; clear n0_ n1_ n2_ n3_ n4_ n5_ n6_; clear hb hbox hg))
              go_loopg [12] kj13 (fun kq v12 w' => ∃ (x12_3 : Int) (x133000_3 : Int) (x133001_3 : Int) (x134000_3 : Int) (x134001_3 : Int), v12 = .int .i64 x12_3 ∧ Aside0 (bywashlaw18_IdsPlays.l0 kq a0 a1 l2 x12_3 x133000_3 x133001_3 x134000_3 x134001_3 = some r) ∧ Aside0 (kq ≤ kj13) ∧ Aside0 (w'.heap[gb133]? = some (.cells #[.int .i64 x134000_3, .int .i64 x134001_3] 46 (0, 0))) ∧ Aside0 (IsS92 w w' g132 x133000_3 x133001_3) ∧ Aside0 (Below w.heap.size w w'))
              case atStart => exact ⟨(0), (t130), (t131), (a0), (a0), (by first | rfl | (simp; done) | (simp [*]; done)), H', ⟨Nat.le_refl _⟩, ⟨by (with_reducible repeat (first | refine blk_drewN ?_ _ | refine blk_drew ?_ | refine blk_alloc ?_ _)); exact BK133.out⟩, ⟨by repeat (first | (with_reducible first | exact HI132.out | apply IsS92.alloc | apply IsS92.drewN | apply IsS92.drew | apply IsS92.set_0 | apply IsS92.set_1 | refine IsS92.far ?_ NB132_133.out _) | exact HI132.out)⟩, ⟨by repeat (first | (with_reducible first | exact HB.out | apply below_alloc | apply pw_below_drewN | apply below_drew1 | refine below_set ?_ (IsS92.ge HI132.out) | refine below_set ?_ GE133.out) | exact HB.out)⟩⟩
              case round =>
                clear H'
                try clear c1
                try clear c2
                try clear p2
                try clear c4
                try clear c5
                try clear c5b0
                try clear c6
                try clear c6b0
                try clear c7
                try clear c7b0
                try clear c7b1
                try clear c10
                try clear c12
                try clear c13
                try clear c16
                try clear c16b0
                try clear c17
                try clear c17b0
                try clear c18
                try clear p2
                obtain ⟨x12_3, x133000_3, x133001_3, x134000_3, x134001_3, rfl, HA, HK3, BK133, HI132, HB⟩ := hrel
                cases gk with
                | zero => exact absurd HA.out (by simp [bywashlaw18_IdsPlays.l0])
                | succ k3 =>
                  have H := HA.out
                  clear HA
                  simp only [bywashlaw18_IdsPlays.l0] at H
                  by_cases c20 : x12_3 < a1
                  · rw [if_pos c20] at H
                    have c20b0 : decide (x12_3 < a1) = true := decide_eq_true c20
                    clear c20
                    replace H := Option.bind_eq_some_iff.mp H
                    obtain ⟨⟨t134, t135, t136⟩, A210, H⟩ := H
                    replace H : (if t134 = true then (if x134001_3 ≤ 2147483647 then ((ids_Ids_Next.f t135 t136).bind fun bt137 => ((bywashref1_Ids_Next.f x134000_3 x134001_3).bind fun bt141 => (if bt137.1 = bt141.1 then (if bt137.2.1 = true then (if bt141.2.1 = true then (bywashlaw18_IdsPlays.j3 k3 a0 a1 l2 x12_3 false bt137.2.2.1 bt137.2.2.2 bt141.2.2.1 bt141.2.2.2) else (bywashlaw18_IdsPlays.j3 k3 a0 a1 l2 x12_3 true bt137.2.2.1 bt137.2.2.2 bt141.2.2.1 bt141.2.2.2)) else (if bt141.2.1 = true then (bywashlaw18_IdsPlays.j3 k3 a0 a1 l2 x12_3 true bt137.2.2.1 bt137.2.2.2 bt141.2.2.1 bt141.2.2.2) else (bywashlaw18_IdsPlays.j3 k3 a0 a1 l2 x12_3 false bt137.2.2.1 bt137.2.2.2 bt141.2.2.1 bt141.2.2.2))) else (bywashlaw18_IdsPlays.j3 k3 a0 a1 l2 x12_3 true bt137.2.2.1 bt137.2.2.2 bt141.2.2.1 bt141.2.2.2)))) else (some false)) else (if x134001_3 ≤ 2147483647 then (some false) else ((ids_Ids_Next.f t135 t136).bind fun bt145 => ((bywashref1_Ids_Next.f x134000_3 x134001_3).bind fun bt149 => (if bt145.1 = bt149.1 then (if bt145.2.1 = true then (if bt149.2.1 = true then (bywashlaw18_IdsPlays.j4 k3 a0 a1 l2 x12_3 false bt145.2.2.1 bt145.2.2.2 bt149.2.2.1 bt149.2.2.2) else (bywashlaw18_IdsPlays.j4 k3 a0 a1 l2 x12_3 true bt145.2.2.1 bt145.2.2.2 bt149.2.2.1 bt149.2.2.2)) else (if bt149.2.1 = true then (bywashlaw18_IdsPlays.j4 k3 a0 a1 l2 x12_3 true bt145.2.2.1 bt145.2.2.2 bt149.2.2.1 bt149.2.2.2) else (bywashlaw18_IdsPlays.j4 k3 a0 a1 l2 x12_3 false bt145.2.2.1 bt145.2.2.2 bt149.2.2.1 bt149.2.2.2))) else (bywashlaw18_IdsPlays.j4 k3 a0 a1 l2 x12_3 true bt145.2.2.1 bt145.2.2.2 bt149.2.2.1 bt149.2.2.2)))))) = some r := H
                    have A21 := Aside0.mk A210
                    clear A210
                    by_cases c22 : t134 = true
                    · subst c22
                      have H1 : (if x134001_3 ≤ 2147483647 then ((ids_Ids_Next.f t135 t136).bind fun bt137 => ((bywashref1_Ids_Next.f x134000_3 x134001_3).bind fun bt141 => (if bt137.1 = bt141.1 then (if bt137.2.1 = true then (if bt141.2.1 = true then (bywashlaw18_IdsPlays.j3 k3 a0 a1 l2 x12_3 false bt137.2.2.1 bt137.2.2.2 bt141.2.2.1 bt141.2.2.2) else (bywashlaw18_IdsPlays.j3 k3 a0 a1 l2 x12_3 true bt137.2.2.1 bt137.2.2.2 bt141.2.2.1 bt141.2.2.2)) else (if bt141.2.1 = true then (bywashlaw18_IdsPlays.j3 k3 a0 a1 l2 x12_3 true bt137.2.2.1 bt137.2.2.2 bt141.2.2.1 bt141.2.2.2) else (bywashlaw18_IdsPlays.j3 k3 a0 a1 l2 x12_3 false bt137.2.2.1 bt137.2.2.2 bt141.2.2.1 bt141.2.2.2))) else (bywashlaw18_IdsPlays.j3 k3 a0 a1 l2 x12_3 true bt137.2.2.1 bt137.2.2.2 bt141.2.2.1 bt141.2.2.2)))) else (some false)) = some r := by rw [if_pos rfl] at H; exact H
                      clear H
                      have H := H1
                      clear H1
                      by_cases c23 : x134001_3 ≤ 2147483647
                      · rw [if_pos c23] at H
                        have c23b0 : decide (x134001_3 ≤ 2147483647) = true := decide_eq_true c23
                        clear c23
                        replace H := Option.bind_eq_some_iff.mp H
                        obtain ⟨⟨t137, t138, t139, t140⟩, A240, H⟩ := H
                        replace H : ((bywashref1_Ids_Next.f x134000_3 x134001_3).bind fun bt141 => (if t137 = bt141.1 then (if t138 = true then (if bt141.2.1 = true then (bywashlaw18_IdsPlays.j3 k3 a0 a1 l2 x12_3 false t139 t140 bt141.2.2.1 bt141.2.2.2) else (bywashlaw18_IdsPlays.j3 k3 a0 a1 l2 x12_3 true t139 t140 bt141.2.2.1 bt141.2.2.2)) else (if bt141.2.1 = true then (bywashlaw18_IdsPlays.j3 k3 a0 a1 l2 x12_3 true t139 t140 bt141.2.2.1 bt141.2.2.2) else (bywashlaw18_IdsPlays.j3 k3 a0 a1 l2 x12_3 false t139 t140 bt141.2.2.1 bt141.2.2.2))) else (bywashlaw18_IdsPlays.j3 k3 a0 a1 l2 x12_3 true t139 t140 bt141.2.2.1 bt141.2.2.2))) = some r := H
                        have A24 := Aside0.mk A240
                        clear A240
                        replace H := Option.bind_eq_some_iff.mp H
                        obtain ⟨⟨t141, t142, t143, t144⟩, A250, H⟩ := H
                        replace H : (if t137 = t141 then (if t138 = true then (if t142 = true then (bywashlaw18_IdsPlays.j3 k3 a0 a1 l2 x12_3 false t139 t140 t143 t144) else (bywashlaw18_IdsPlays.j3 k3 a0 a1 l2 x12_3 true t139 t140 t143 t144)) else (if t142 = true then (bywashlaw18_IdsPlays.j3 k3 a0 a1 l2 x12_3 true t139 t140 t143 t144) else (bywashlaw18_IdsPlays.j3 k3 a0 a1 l2 x12_3 false t139 t140 t143 t144))) else (bywashlaw18_IdsPlays.j3 k3 a0 a1 l2 x12_3 true t139 t140 t143 t144)) = some r := H
                        have A25 := Aside0.mk A250
                        clear A250
                        have HC26 := Aside0.mk H
                        clear H
                        try go_wp2
                        have n0_ := Aside0.mk (blk_drew BK133.out)
                        have n1_ := Aside0.mk (IsS92.drew HI132.out)
                        have n2_ := Aside0.mk (below_drew1 HB.out)
                        clear BK133
                        clear HI132
                        clear HB
                        have BK133 := n0_
                        have HI132 := n1_
                        have HB := n2_
                        clear n0_ n1_ n2_
                        refine start_ (n := 8) (S := fun w' => w'.cell? ⟨gb133, 0, none⟩ = some (.int .i64 x134000_3) ∧ w'.cell? ⟨gb133, 1, none⟩ = some (.int .i64 x134001_3)) (ds := []) #[false, false, false, false, false, false, false, false] (by kernel_rfl) rfl rfl ⟨(blk_cell BK133.out 0).trans rfl, (blk_cell BK133.out 1).trans rfl⟩ (fun hHeld => ?_); refine with_tabW bywashlaw18_IdsPlays.tab14 bywashlaw18_IdsPlays.bits14 (fun HT_ HW_ => ?_)
                        generalize wr.drew = w27 at BK133 HI132 HB hHeld ⊢
                        refine pure_ (i := 0) (N := some 80) (v := ?_) (a' := ?_) #[true, false, false, false, false, false, false, false] rfl rfl (any_of HT_.out (by kernel_rfl)) (fun _ _ _ h => h) (Or.inl ⟨by rfl, ?_⟩) ?_ ?_
                        rotate_left
                        · intro w'
                          go_simp
                          with_reducible rfl
                        rotate_left
                        · simp only [Act.put, List.setIfInBounds_toArray, List.set_cons_zero, List.set_cons_succ, i64_w, i32_w]
                          rfl
                        refine pure_ (i := 2) (N := some 82) (v := ?_) (a' := ?_) #[true, false, true, false, false, false, false, false] rfl rfl (any_of HT_.out (by kernel_rfl)) (fun _ _ _ h => h) (Or.inl ⟨by rfl, ?_⟩) ?_ ?_
                        rotate_left
                        · intro w'
                          go_simp
                          with_reducible rfl
                        rotate_left
                        · simp only [Act.put, List.setIfInBounds_toArray, List.set_cons_zero, List.set_cons_succ, i64_w, i32_w]
                          rfl
                        refine pure_ (i := 3) (N := some 83) (v := ?_) (a' := ?_) #[true, false, true, true, false, false, false, false] rfl rfl (any_of HT_.out (by kernel_rfl)) (fun _ _ _ h => h) (Or.inl ⟨by rfl, ?_⟩) ?_ ?_
                        rotate_left
                        · intro w'
                          go_simp
                          with_reducible rfl
                        rotate_left
                        · simp only [Act.put, List.setIfInBounds_toArray, List.set_cons_zero, List.set_cons_succ, i64_w, i32_w]
                          rfl
                        refine pure_ (i := 4) (N := some 84) (v := ?_) (a' := ?_) #[true, false, true, true, true, false, false, false] rfl rfl (any_of HT_.out (by kernel_rfl)) (fun _ _ _ h => h) (Or.inl ⟨by rfl, ?_⟩) ?_ ?_
                        rotate_left
                        · intro w'
                          go_simp
                          with_reducible rfl
                        rotate_left
                        · simp only [Act.put, List.setIfInBounds_toArray, List.set_cons_zero, List.set_cons_succ, i64_w, i32_w]
                          rfl
                        refine take_ (i := 5) (N := some 85) (v := ?_) (a' := ?_) #[true, false, true, true, true, true, false, false] rfl rfl (take_ofW HT_.out HW_.out (by kernel_rfl)) (fun _ _ _ h => h) (Or.inl ⟨by rfl, ?_⟩) hHeld ?_ ?_
                        rotate_left
                        · rintro w' ⟨s0, s1⟩
                          go_simp
                          with_reducible rfl
                        rotate_left
                        · simp only [Act.put, List.setIfInBounds_toArray, List.set_cons_zero, List.set_cons_succ, i64_w, i32_w]
                          rfl
                        refine pure_ (i := 6) (N := some 86) (v := ?_) (a' := ?_) #[true, false, true, true, true, true, true, false] rfl rfl (any_of HT_.out (by kernel_rfl)) (fun _ _ _ h => h) (Or.inl ⟨by rfl, ?_⟩) ?_ ?_
                        rotate_left
                        · intro w'
                          go_simp
                          with_reducible rfl
                        rotate_left
                        · simp only [Act.put, List.setIfInBounds_toArray, List.set_cons_zero, List.set_cons_succ, i64_w, i32_w]
                          rfl
                        refine one_ (i := 1) (N := some 81) #[true, true, true, true, true, true, true, false] rfl rfl (one_of HT_.out (by kernel_rfl)) (by decide) (fun K hK => ?_)
                        refine goes_ Try.func15 (by kernel_rfl) rfl #[.pointer (some ⟨g132, 0, none⟩)] (by rfl) rfl rfl (by (try simp only [List.map_toArray, List.map_cons, List.map_nil]); first | done | rfl | (simp only [List.length_drop, List.length_take]; rfl)) ?_
                        with_reducible refine (ids_Ids_Left.calls g132 x133000_3 x133001_3 true t135 t136 w _ ?side1 ?side2 A21.out).mono ?_
                        (case side1 => repeat (first | (with_reducible first | exact HI132.out | apply IsS92.alloc | apply IsS92.drewN | apply IsS92.drew | apply IsS92.set_0 | apply IsS92.set_1 | refine IsS92.far ?_ NB132_133.out _) | exact HI132.out))
                        (case side2 => repeat (first | (with_reducible first | exact HB.out | apply below_alloc | apply pw_below_drewN | apply below_drew1 | refine below_set ?_ (IsS92.ge HI132.out) | refine below_set ?_ GE133.out) | exact HB.out))
                        rintro e w28 ⟨rfl, hi, hb, hk⟩
                        refine ⟨_, rfl, ?_⟩
                        have n0_ := Aside0.mk (KeepBut.blk hk (g' := gb133) (o := .cells #[.int .i64 x134000_3, .int .i64 x134001_3] 46 (0, 0)) (by (with_reducible repeat (first | refine blk_drewN ?_ _ | refine blk_drew ?_ | refine blk_alloc ?_ _)); exact BK133.out) NB133_132.out (by simp))
                        have n1_ := Aside0.mk (hb)
                        have n2_ := Aside0.mk (hi)
                        clear BK133
                        clear HB
                        clear HI132
                        have BK133 := n0_
                        have HB := n1_
                        have HI132 := n2_
                        clear n0_ n1_ n2_
                        (try clear hb)
                        (try clear hb2)
                        (try clear hk)
                        (try clear hi)
                        refine hK.out _ _ ⟨(blk_cell BK133.out 0).trans rfl, (blk_cell BK133.out 1).trans rfl⟩ (fun hHeld => ?_)
                        clear hK K
                        refine norm_ (a' := ?_) ?_ ?_
                        rotate_left
                        · show Act.put _ (some 81) _ = _
                          simp only [Act.put, List.setIfInBounds_toArray, List.set_cons_zero, List.set_cons_succ, i64_w, i32_w]
                          rfl
                        refine pure_ (i := 7) (N := some 87) (v := ?_) (a' := ?_) #[true, true, true, true, true, true, true, true] rfl rfl (any_of HT_.out (by kernel_rfl)) (fun _ _ _ h => h) (Or.inl ⟨by rfl, ?_⟩) ?_ ?_
                        rotate_left
                        · intro w'
                          go_simp
                          with_reducible rfl
                        rotate_left
                        · simp only [Act.put, List.setIfInBounds_toArray, List.set_cons_zero, List.set_cons_succ, i64_w, i32_w]
                          rfl
                        refine done_ (done_of HT_.out (by kernel_rfl)) ?_
                        go_upto_region 18 with (first | ((with_reducible refine gate_callee (f := 14) rfl ?_); refine goesL_ (some 90) rfl rfl Try.func14 (by kernel_rfl) rfl #[.pointer (some ⟨g132, 0, none⟩)] rfl (by (try simp only [List.map_toArray, List.map_cons, List.map_nil]); first | done | rfl | (simp only [List.length_drop, List.length_take]; rfl)) ?_; (with_reducible refine (ids_Ids_Next.calls g132 t135 t136 t137 t138 t139 t140 w _ ?side1 ?side2 A24.out).mono ?_); (case side1 => repeat (first | (with_reducible first | exact HI132.out | apply IsS92.alloc | apply IsS92.drewN | apply IsS92.drew | apply IsS92.set_0 | apply IsS92.set_1 | refine IsS92.far ?_ NB132_133.out _) | exact HI132.out)); (case side2 => repeat (first | (with_reducible first | exact HB.out | apply below_alloc | apply pw_below_drewN | apply below_drew1 | refine below_set ?_ (IsS92.ge HI132.out) | refine below_set ?_ GE133.out) | exact HB.out)); rintro e w29 ⟨rfl, hi, hb, hk⟩; refine ⟨_, rfl, ?_⟩; have n0_ := Aside0.mk (KeepBut.blk hk (g' := gb133) (o := .cells #[.int .i64 x134000_3, .int .i64 x134001_3] 46 (0, 0)) (by (with_reducible repeat (first | refine blk_drewN ?_ _ | refine blk_drew ?_ | refine blk_alloc ?_ _)); exact BK133.out) NB133_132.out (by simp)); have n1_ := Aside0.mk (hb); have n2_ := Aside0.mk (hi); clear BK133; clear HB; clear HI132; have BK133 := n0_; have HB := n1_; have HI132 := n2_; clear n0_ n1_ n2_; (try clear hb); (try clear hb2); (try clear hk); (try clear hi)) | ((with_reducible refine gate_callee (f := 17) rfl ?_); refine goesL_ (some 95) rfl rfl Try.func17 (by kernel_rfl) rfl #[.pointer (some ⟨gb133, 0, none⟩)] rfl (by (try simp only [List.map_toArray, List.map_cons, List.map_nil]); first | done | rfl | (simp only [List.length_drop, List.length_take]; rfl)) ?_; (with_reducible refine (bywashref1_Ids_Next.calls gb133 x134000_3 x134001_3 t141 t142 t143 t144 w _ ?side1 ?side2 A25.out).mono ?_); (case side1 => exact ⟨by (with_reducible repeat (first | refine blk_drewN ?_ _ | refine blk_drew ?_ | refine blk_alloc ?_ _)); exact BK133.out, GE133.out⟩); (case side2 => repeat (first | (with_reducible first | exact HB.out | apply below_alloc | apply pw_below_drewN | apply below_drew1 | refine below_set ?_ (IsS92.ge HI132.out) | refine below_set ?_ GE133.out) | exact HB.out)); rintro e w30 ⟨rfl, hi, hb, hk⟩; refine ⟨_, rfl, ?_⟩; have n0_ := Aside0.mk (hi.1); have n1_ := Aside0.mk ((show IsS92 w _ g132 t139 t140 from ⟨KeepBut.blk hk (show IsS92 w _ g132 t139 t140 from by repeat (first | (with_reducible first | exact HI132.out | apply IsS92.alloc | apply IsS92.drewN | apply IsS92.drew | apply IsS92.set_0 | apply IsS92.set_1 | refine IsS92.far ?_ NB132_133.out _) | exact HI132.out)).1 NB132_133.out (by simp), (HI132.out).2⟩)); have n2_ := Aside0.mk (hb); clear BK133; clear HI132; clear HB; have BK133 := n0_; have HI132 := n1_; have HB := n2_; clear n0_ n1_ n2_; (try clear hb); (try clear hb2); (try clear hk); (try clear hi)))
                        (try simp only [Act.put, List.setIfInBounds_toArray, List.set_cons_zero, List.set_cons_succ])
                        go_cut [105] (fun v105 wc => ∃ (kq : Nat) (x105_25 : Bool), v105 = .bool x105_25 ∧ Aside0 (bywashlaw18_IdsPlays.j3 kq a0 a1 l2 x12_3 x105_25 t139 t140 t143 t144 = some r) ∧ Aside0 (kq ≤ k3) ∧ Aside0 (wc.heap[gb133]? = some (.cells #[.int .i64 t143, .int .i64 t144] 46 (0, 0))) ∧ Aside0 (IsS92 w wc g132 t139 t140) ∧ Aside0 (Below w.heap.size w wc))
                        case first =>
                          have H := HC26.out
                          clear HC26
                          by_cases c31 : t137 = t141
                          · rw [if_pos c31] at H
                            have c31b0 : (t137 == t141) = true := beq_iff_eq.mpr c31
                            have c31b1 : (t137 != t141) = false := bne_eq_false_iff_eq.mpr c31
                            clear c31
                            (first | rw [c31b0] | (simp only [i64_w, i32_w]; rw [c31b0]) | skip)
                            by_cases c32 : t138 = true
                            · subst c32
                              have H1 : (if t142 = true then (bywashlaw18_IdsPlays.j3 k3 a0 a1 l2 x12_3 false t139 t140 t143 t144) else (bywashlaw18_IdsPlays.j3 k3 a0 a1 l2 x12_3 true t139 t140 t143 t144)) = some r := by rw [if_pos rfl] at H; exact H
                              clear H
                              have H := H1
                              clear H1
                              by_cases c33 : t142 = true
                              · subst c33
                                have H1 : (bywashlaw18_IdsPlays.j3 k3 a0 a1 l2 x12_3 false t139 t140 t143 t144) = some r := by rw [if_pos rfl] at H; exact H
                                clear H
                                have H := H1
                                clear H1
                                have H' := Aside0.mk H
                                clear H
                                go_wp2
                                go_meet
                                case rel => exact ⟨_, (false), (by first | rfl | (simp; done) | (simp [*]; done)), H', ⟨by have := HJ3.out; have := HJ13.out; have := HK3.out; first | omega | exact Nat.le_refl _⟩, ⟨by (with_reducible repeat (first | refine blk_drewN ?_ _ | refine blk_drew ?_ | refine blk_alloc ?_ _)); exact BK133.out⟩, ⟨by repeat (first | (with_reducible first | exact HI132.out | apply IsS92.alloc | apply IsS92.drewN | apply IsS92.drew | apply IsS92.set_0 | apply IsS92.set_1 | refine IsS92.far ?_ NB132_133.out _) | exact HI132.out)⟩, ⟨by repeat (first | (with_reducible first | exact HB.out | apply below_alloc | apply pw_below_drewN | apply below_drew1 | refine below_set ?_ (IsS92.ge HI132.out) | refine below_set ?_ GE133.out) | exact HB.out)⟩⟩
                              · replace c33 := Bool.eq_false_iff.mpr c33
                                subst c33
                                have H1 : (bywashlaw18_IdsPlays.j3 k3 a0 a1 l2 x12_3 true t139 t140 t143 t144) = some r := by rw [if_neg (show ¬ (false = true) by decide)] at H; exact H
                                clear H
                                have H := H1
                                clear H1
                                have H' := Aside0.mk H
                                clear H
                                go_wp2
                                go_meet
                                case rel => exact ⟨_, (true), (by first | rfl | (simp; done) | (simp [*]; done)), H', ⟨by have := HJ3.out; have := HJ13.out; have := HK3.out; first | omega | exact Nat.le_refl _⟩, ⟨by (with_reducible repeat (first | refine blk_drewN ?_ _ | refine blk_drew ?_ | refine blk_alloc ?_ _)); exact BK133.out⟩, ⟨by repeat (first | (with_reducible first | exact HI132.out | apply IsS92.alloc | apply IsS92.drewN | apply IsS92.drew | apply IsS92.set_0 | apply IsS92.set_1 | refine IsS92.far ?_ NB132_133.out _) | exact HI132.out)⟩, ⟨by repeat (first | (with_reducible first | exact HB.out | apply below_alloc | apply pw_below_drewN | apply below_drew1 | refine below_set ?_ (IsS92.ge HI132.out) | refine below_set ?_ GE133.out) | exact HB.out)⟩⟩
                            · replace c32 := Bool.eq_false_iff.mpr c32
                              subst c32
                              have H1 : (if t142 = true then (bywashlaw18_IdsPlays.j3 k3 a0 a1 l2 x12_3 true t139 t140 t143 t144) else (bywashlaw18_IdsPlays.j3 k3 a0 a1 l2 x12_3 false t139 t140 t143 t144)) = some r := by rw [if_neg (show ¬ (false = true) by decide)] at H; exact H
                              clear H
                              have H := H1
                              clear H1
                              by_cases c34 : t142 = true
                              · subst c34
                                have H1 : (bywashlaw18_IdsPlays.j3 k3 a0 a1 l2 x12_3 true t139 t140 t143 t144) = some r := by rw [if_pos rfl] at H; exact H
                                clear H
                                have H := H1
                                clear H1
                                have H' := Aside0.mk H
                                clear H
                                go_wp2
                                go_meet
                                case rel => exact ⟨_, (true), (by first | rfl | (simp; done) | (simp [*]; done)), H', ⟨by have := HJ3.out; have := HJ13.out; have := HK3.out; first | omega | exact Nat.le_refl _⟩, ⟨by (with_reducible repeat (first | refine blk_drewN ?_ _ | refine blk_drew ?_ | refine blk_alloc ?_ _)); exact BK133.out⟩, ⟨by repeat (first | (with_reducible first | exact HI132.out | apply IsS92.alloc | apply IsS92.drewN | apply IsS92.drew | apply IsS92.set_0 | apply IsS92.set_1 | refine IsS92.far ?_ NB132_133.out _) | exact HI132.out)⟩, ⟨by repeat (first | (with_reducible first | exact HB.out | apply below_alloc | apply pw_below_drewN | apply below_drew1 | refine below_set ?_ (IsS92.ge HI132.out) | refine below_set ?_ GE133.out) | exact HB.out)⟩⟩
                              · replace c34 := Bool.eq_false_iff.mpr c34
                                subst c34
                                have H1 : (bywashlaw18_IdsPlays.j3 k3 a0 a1 l2 x12_3 false t139 t140 t143 t144) = some r := by rw [if_neg (show ¬ (false = true) by decide)] at H; exact H
                                clear H
                                have H := H1
                                clear H1
                                have H' := Aside0.mk H
                                clear H
                                go_wp2
                                go_meet
                                case rel => exact ⟨_, (false), (by first | rfl | (simp; done) | (simp [*]; done)), H', ⟨by have := HJ3.out; have := HJ13.out; have := HK3.out; first | omega | exact Nat.le_refl _⟩, ⟨by (with_reducible repeat (first | refine blk_drewN ?_ _ | refine blk_drew ?_ | refine blk_alloc ?_ _)); exact BK133.out⟩, ⟨by repeat (first | (with_reducible first | exact HI132.out | apply IsS92.alloc | apply IsS92.drewN | apply IsS92.drew | apply IsS92.set_0 | apply IsS92.set_1 | refine IsS92.far ?_ NB132_133.out _) | exact HI132.out)⟩, ⟨by repeat (first | (with_reducible first | exact HB.out | apply below_alloc | apply pw_below_drewN | apply below_drew1 | refine below_set ?_ (IsS92.ge HI132.out) | refine below_set ?_ GE133.out) | exact HB.out)⟩⟩
                          · rw [if_neg c31] at H
                            have c31b0 : (t137 == t141) = false := beq_eq_false_iff_ne.mpr c31
                            have c31b1 : (t137 != t141) = true := bne_iff_ne.mpr c31
                            (first | rw [c31b0] | (simp only [i64_w, i32_w]; rw [c31b0]) | skip)
                            have H' := Aside0.mk H
                            clear H
                            go_wp2
                            go_meet
                            case rel => exact ⟨_, (true), (by first | rfl | (simp; done) | (simp [*]; done)), H', ⟨by have := HJ3.out; have := HJ13.out; have := HK3.out; first | omega | exact Nat.le_refl _⟩, ⟨by (with_reducible repeat (first | refine blk_drewN ?_ _ | refine blk_drew ?_ | refine blk_alloc ?_ _)); exact BK133.out⟩, ⟨by repeat (first | (with_reducible first | exact HI132.out | apply IsS92.alloc | apply IsS92.drewN | apply IsS92.drew | apply IsS92.set_0 | apply IsS92.set_1 | refine IsS92.far ?_ NB132_133.out _) | exact HI132.out)⟩, ⟨by repeat (first | (with_reducible first | exact HB.out | apply below_alloc | apply pw_below_drewN | apply below_drew1 | refine below_set ?_ (IsS92.ge HI132.out) | refine below_set ?_ GE133.out) | exact HB.out)⟩⟩
                        case rest =>
                          clear HC26
                          try clear c1
                          try clear c2
                          try clear p2
                          try clear c3
                          try clear c4
                          try clear c5
                          try clear c5b0
                          try clear c6
                          try clear c6b0
                          try clear c7
                          try clear c7b0
                          try clear c7b1
                          try clear c10
                          try clear c12
                          try clear c13
                          try clear c14
                          try clear c15
                          try clear c16
                          try clear c16b0
                          try clear c17
                          try clear c17b0
                          try clear c18
                          try clear c20
                          try clear c20b0
                          try clear c22
                          try clear c23
                          try clear c23b0
                          try clear c31
                          try clear c31b0
                          try clear c31b1
                          try clear c32
                          try clear c33
                          try clear c34
                          try clear p2
                          obtain ⟨kq, x105_25, rfl, HA, HJ25, BK133, HI132, HB⟩ := hcut
                          cases kq with
                          | zero => exact absurd HA.out (by simp [bywashlaw18_IdsPlays.j3])
                          | succ kj25 =>
                            have H := HA.out
                            clear HA
                            simp only [bywashlaw18_IdsPlays.j3] at H
                            by_cases c35 : x105_25 = true
                            · subst c35
                              have H1 : (some false) = some r := by rw [if_pos rfl] at H; exact H
                              clear H
                              have H := H1
                              clear H1
                              obtain rfl := Option.some.inj H
                              go_wp2
                              go_ret
                              exact ⟨by first | rfl | (simp [errW_none, errW_some] <;> rfl) | (simp [*, errW_none, errW_some] <;> rfl), by repeat (first | (with_reducible first | exact HB.out | apply below_alloc | apply pw_below_drewN | apply below_drew1 | refine below_set ?_ (IsS92.ge HI132.out) | refine below_set ?_ GE133.out) | exact HB.out)⟩
                            · replace c35 := Bool.eq_false_iff.mpr c35
                              subst c35
                              have H1 : (bywashlaw18_IdsPlays.l0 kj25 a0 a1 l2 (wrap64 (x12_3 + 1)) t139 t140 t143 t144) = some r := by rw [if_neg (show ¬ (false = true) by decide)] at H; exact H
                              clear H
                              have H := H1
                              clear H1
                              have H' := Aside0.mk H
                              clear H
                              go_wp2
                              go_roundg kj25
                              case measure => have := HJ3.out; have := HJ13.out; have := HK3.out; have := HJ25.out; omega
                              case rel => exact ⟨(wrap64 (x12_3 + 1)), (t139), (t140), (t143), (t144), (by first | rfl | (simp; done) | (simp [*]; done)), H', ⟨by have := HJ3.out; have := HJ13.out; have := HK3.out; have := HJ25.out; omega⟩, ⟨by (with_reducible repeat (first | refine blk_drewN ?_ _ | refine blk_drew ?_ | refine blk_alloc ?_ _)); exact BK133.out⟩, ⟨by repeat (first | (with_reducible first | exact HI132.out | apply IsS92.alloc | apply IsS92.drewN | apply IsS92.drew | apply IsS92.set_0 | apply IsS92.set_1 | refine IsS92.far ?_ NB132_133.out _) | exact HI132.out)⟩, ⟨by repeat (first | (with_reducible first | exact HB.out | apply below_alloc | apply pw_below_drewN | apply below_drew1 | refine below_set ?_ (IsS92.ge HI132.out) | refine below_set ?_ GE133.out) | exact HB.out)⟩⟩
                      · rw [if_neg c23] at H
                        have c23b0 : decide (x134001_3 ≤ 2147483647) = false := decide_eq_false c23
                        clear c23
                        obtain rfl := Option.some.inj H
                        try go_wp2
                        have n0_ := Aside0.mk (blk_drew BK133.out)
                        have n1_ := Aside0.mk (IsS92.drew HI132.out)
                        have n2_ := Aside0.mk (below_drew1 HB.out)
                        clear BK133
                        clear HI132
                        clear HB
                        have BK133 := n0_
                        have HI132 := n1_
                        have HB := n2_
                        clear n0_ n1_ n2_
                        refine start_ (n := 8) (S := fun w' => w'.cell? ⟨gb133, 0, none⟩ = some (.int .i64 x134000_3) ∧ w'.cell? ⟨gb133, 1, none⟩ = some (.int .i64 x134001_3)) (ds := []) #[false, false, false, false, false, false, false, false] (by kernel_rfl) rfl rfl ⟨(blk_cell BK133.out 0).trans rfl, (blk_cell BK133.out 1).trans rfl⟩ (fun hHeld => ?_); refine with_tabW bywashlaw18_IdsPlays.tab14 bywashlaw18_IdsPlays.bits14 (fun HT_ HW_ => ?_)
                        generalize wr.drew = w36 at BK133 HI132 HB hHeld ⊢
                        refine pure_ (i := 0) (N := some 80) (v := ?_) (a' := ?_) #[true, false, false, false, false, false, false, false] rfl rfl (any_of HT_.out (by kernel_rfl)) (fun _ _ _ h => h) (Or.inl ⟨by rfl, ?_⟩) ?_ ?_
                        rotate_left
                        · intro w'
                          go_simp
                          with_reducible rfl
                        rotate_left
                        · simp only [Act.put, List.setIfInBounds_toArray, List.set_cons_zero, List.set_cons_succ, i64_w, i32_w]
                          rfl
                        refine pure_ (i := 2) (N := some 82) (v := ?_) (a' := ?_) #[true, false, true, false, false, false, false, false] rfl rfl (any_of HT_.out (by kernel_rfl)) (fun _ _ _ h => h) (Or.inl ⟨by rfl, ?_⟩) ?_ ?_
                        rotate_left
                        · intro w'
                          go_simp
                          with_reducible rfl
                        rotate_left
                        · simp only [Act.put, List.setIfInBounds_toArray, List.set_cons_zero, List.set_cons_succ, i64_w, i32_w]
                          rfl
                        refine pure_ (i := 3) (N := some 83) (v := ?_) (a' := ?_) #[true, false, true, true, false, false, false, false] rfl rfl (any_of HT_.out (by kernel_rfl)) (fun _ _ _ h => h) (Or.inl ⟨by rfl, ?_⟩) ?_ ?_
                        rotate_left
                        · intro w'
                          go_simp
                          with_reducible rfl
                        rotate_left
                        · simp only [Act.put, List.setIfInBounds_toArray, List.set_cons_zero, List.set_cons_succ, i64_w, i32_w]
                          rfl
                        refine pure_ (i := 4) (N := some 84) (v := ?_) (a' := ?_) #[true, false, true, true, true, false, false, false] rfl rfl (any_of HT_.out (by kernel_rfl)) (fun _ _ _ h => h) (Or.inl ⟨by rfl, ?_⟩) ?_ ?_
                        rotate_left
                        · intro w'
                          go_simp
                          with_reducible rfl
                        rotate_left
                        · simp only [Act.put, List.setIfInBounds_toArray, List.set_cons_zero, List.set_cons_succ, i64_w, i32_w]
                          rfl
                        refine take_ (i := 5) (N := some 85) (v := ?_) (a' := ?_) #[true, false, true, true, true, true, false, false] rfl rfl (take_ofW HT_.out HW_.out (by kernel_rfl)) (fun _ _ _ h => h) (Or.inl ⟨by rfl, ?_⟩) hHeld ?_ ?_
                        rotate_left
                        · rintro w' ⟨s0, s1⟩
                          go_simp
                          with_reducible rfl
                        rotate_left
                        · simp only [Act.put, List.setIfInBounds_toArray, List.set_cons_zero, List.set_cons_succ, i64_w, i32_w]
                          rfl
                        refine pure_ (i := 6) (N := some 86) (v := ?_) (a' := ?_) #[true, false, true, true, true, true, true, false] rfl rfl (any_of HT_.out (by kernel_rfl)) (fun _ _ _ h => h) (Or.inl ⟨by rfl, ?_⟩) ?_ ?_
                        rotate_left
                        · intro w'
                          go_simp
                          with_reducible rfl
                        rotate_left
                        · simp only [Act.put, List.setIfInBounds_toArray, List.set_cons_zero, List.set_cons_succ, i64_w, i32_w]
                          rfl
                        refine one_ (i := 1) (N := some 81) #[true, true, true, true, true, true, true, false] rfl rfl (one_of HT_.out (by kernel_rfl)) (by decide) (fun K hK => ?_)
                        refine goes_ Try.func15 (by kernel_rfl) rfl #[.pointer (some ⟨g132, 0, none⟩)] (by rfl) rfl rfl (by (try simp only [List.map_toArray, List.map_cons, List.map_nil]); first | done | rfl | (simp only [List.length_drop, List.length_take]; rfl)) ?_
                        with_reducible refine (ids_Ids_Left.calls g132 x133000_3 x133001_3 true t135 t136 w _ ?side1 ?side2 A21.out).mono ?_
                        (case side1 => repeat (first | (with_reducible first | exact HI132.out | apply IsS92.alloc | apply IsS92.drewN | apply IsS92.drew | apply IsS92.set_0 | apply IsS92.set_1 | refine IsS92.far ?_ NB132_133.out _) | exact HI132.out))
                        (case side2 => repeat (first | (with_reducible first | exact HB.out | apply below_alloc | apply pw_below_drewN | apply below_drew1 | refine below_set ?_ (IsS92.ge HI132.out) | refine below_set ?_ GE133.out) | exact HB.out))
                        rintro e w37 ⟨rfl, hi, hb, hk⟩
                        refine ⟨_, rfl, ?_⟩
                        have n0_ := Aside0.mk (KeepBut.blk hk (g' := gb133) (o := .cells #[.int .i64 x134000_3, .int .i64 x134001_3] 46 (0, 0)) (by (with_reducible repeat (first | refine blk_drewN ?_ _ | refine blk_drew ?_ | refine blk_alloc ?_ _)); exact BK133.out) NB133_132.out (by simp))
                        have n1_ := Aside0.mk (hb)
                        have n2_ := Aside0.mk (hi)
                        clear BK133
                        clear HB
                        clear HI132
                        have BK133 := n0_
                        have HB := n1_
                        have HI132 := n2_
                        clear n0_ n1_ n2_
                        (try clear hb)
                        (try clear hb2)
                        (try clear hk)
                        (try clear hi)
                        refine hK.out _ _ ⟨(blk_cell BK133.out 0).trans rfl, (blk_cell BK133.out 1).trans rfl⟩ (fun hHeld => ?_)
                        clear hK K
                        refine norm_ (a' := ?_) ?_ ?_
                        rotate_left
                        · show Act.put _ (some 81) _ = _
                          simp only [Act.put, List.setIfInBounds_toArray, List.set_cons_zero, List.set_cons_succ, i64_w, i32_w]
                          rfl
                        refine pure_ (i := 7) (N := some 87) (v := ?_) (a' := ?_) #[true, true, true, true, true, true, true, true] rfl rfl (any_of HT_.out (by kernel_rfl)) (fun _ _ _ h => h) (Or.inl ⟨by rfl, ?_⟩) ?_ ?_
                        rotate_left
                        · intro w'
                          go_simp
                          with_reducible rfl
                        rotate_left
                        · simp only [Act.put, List.setIfInBounds_toArray, List.set_cons_zero, List.set_cons_succ, i64_w, i32_w]
                          rfl
                        refine done_ (done_of HT_.out (by kernel_rfl)) ?_
                        try go_wp2
                        go_ret
                        exact ⟨by first | rfl | (simp [errW_none, errW_some] <;> rfl) | (simp [*, errW_none, errW_some] <;> rfl), by repeat (first | (with_reducible first | exact HB.out | apply below_alloc | apply pw_below_drewN | apply below_drew1 | refine below_set ?_ (IsS92.ge HI132.out) | refine below_set ?_ GE133.out) | exact HB.out)⟩
                    · replace c22 := Bool.eq_false_iff.mpr c22
                      subst c22
                      have H1 : (if x134001_3 ≤ 2147483647 then (some false) else ((ids_Ids_Next.f t135 t136).bind fun bt145 => ((bywashref1_Ids_Next.f x134000_3 x134001_3).bind fun bt149 => (if bt145.1 = bt149.1 then (if bt145.2.1 = true then (if bt149.2.1 = true then (bywashlaw18_IdsPlays.j4 k3 a0 a1 l2 x12_3 false bt145.2.2.1 bt145.2.2.2 bt149.2.2.1 bt149.2.2.2) else (bywashlaw18_IdsPlays.j4 k3 a0 a1 l2 x12_3 true bt145.2.2.1 bt145.2.2.2 bt149.2.2.1 bt149.2.2.2)) else (if bt149.2.1 = true then (bywashlaw18_IdsPlays.j4 k3 a0 a1 l2 x12_3 true bt145.2.2.1 bt145.2.2.2 bt149.2.2.1 bt149.2.2.2) else (bywashlaw18_IdsPlays.j4 k3 a0 a1 l2 x12_3 false bt145.2.2.1 bt145.2.2.2 bt149.2.2.1 bt149.2.2.2))) else (bywashlaw18_IdsPlays.j4 k3 a0 a1 l2 x12_3 true bt145.2.2.1 bt145.2.2.2 bt149.2.2.1 bt149.2.2.2))))) = some r := by rw [if_neg (show ¬ (false = true) by decide)] at H; exact H
                      clear H
                      have H := H1
                      clear H1
                      by_cases c38 : x134001_3 ≤ 2147483647
                      · rw [if_pos c38] at H
                        have c38b0 : decide (x134001_3 ≤ 2147483647) = true := decide_eq_true c38
                        clear c38
                        obtain rfl := Option.some.inj H
                        try go_wp2
                        have n0_ := Aside0.mk (blk_drew BK133.out)
                        have n1_ := Aside0.mk (IsS92.drew HI132.out)
                        have n2_ := Aside0.mk (below_drew1 HB.out)
                        clear BK133
                        clear HI132
                        clear HB
                        have BK133 := n0_
                        have HI132 := n1_
                        have HB := n2_
                        clear n0_ n1_ n2_
                        refine start_ (n := 8) (S := fun w' => w'.cell? ⟨gb133, 0, none⟩ = some (.int .i64 x134000_3) ∧ w'.cell? ⟨gb133, 1, none⟩ = some (.int .i64 x134001_3)) (ds := []) #[false, false, false, false, false, false, false, false] (by kernel_rfl) rfl rfl ⟨(blk_cell BK133.out 0).trans rfl, (blk_cell BK133.out 1).trans rfl⟩ (fun hHeld => ?_); refine with_tabW bywashlaw18_IdsPlays.tab14 bywashlaw18_IdsPlays.bits14 (fun HT_ HW_ => ?_)
                        generalize wr.drew = w39 at BK133 HI132 HB hHeld ⊢
                        refine pure_ (i := 0) (N := some 80) (v := ?_) (a' := ?_) #[true, false, false, false, false, false, false, false] rfl rfl (any_of HT_.out (by kernel_rfl)) (fun _ _ _ h => h) (Or.inl ⟨by rfl, ?_⟩) ?_ ?_
                        rotate_left
                        · intro w'
                          go_simp
                          with_reducible rfl
                        rotate_left
                        · simp only [Act.put, List.setIfInBounds_toArray, List.set_cons_zero, List.set_cons_succ, i64_w, i32_w]
                          rfl
                        refine pure_ (i := 2) (N := some 82) (v := ?_) (a' := ?_) #[true, false, true, false, false, false, false, false] rfl rfl (any_of HT_.out (by kernel_rfl)) (fun _ _ _ h => h) (Or.inl ⟨by rfl, ?_⟩) ?_ ?_
                        rotate_left
                        · intro w'
                          go_simp
                          with_reducible rfl
                        rotate_left
                        · simp only [Act.put, List.setIfInBounds_toArray, List.set_cons_zero, List.set_cons_succ, i64_w, i32_w]
                          rfl
                        refine pure_ (i := 3) (N := some 83) (v := ?_) (a' := ?_) #[true, false, true, true, false, false, false, false] rfl rfl (any_of HT_.out (by kernel_rfl)) (fun _ _ _ h => h) (Or.inl ⟨by rfl, ?_⟩) ?_ ?_
                        rotate_left
                        · intro w'
                          go_simp
                          with_reducible rfl
                        rotate_left
                        · simp only [Act.put, List.setIfInBounds_toArray, List.set_cons_zero, List.set_cons_succ, i64_w, i32_w]
                          rfl
                        refine pure_ (i := 4) (N := some 84) (v := ?_) (a' := ?_) #[true, false, true, true, true, false, false, false] rfl rfl (any_of HT_.out (by kernel_rfl)) (fun _ _ _ h => h) (Or.inl ⟨by rfl, ?_⟩) ?_ ?_
                        rotate_left
                        · intro w'
                          go_simp
                          with_reducible rfl
                        rotate_left
                        · simp only [Act.put, List.setIfInBounds_toArray, List.set_cons_zero, List.set_cons_succ, i64_w, i32_w]
                          rfl
                        refine take_ (i := 5) (N := some 85) (v := ?_) (a' := ?_) #[true, false, true, true, true, true, false, false] rfl rfl (take_ofW HT_.out HW_.out (by kernel_rfl)) (fun _ _ _ h => h) (Or.inl ⟨by rfl, ?_⟩) hHeld ?_ ?_
                        rotate_left
                        · rintro w' ⟨s0, s1⟩
                          go_simp
                          with_reducible rfl
                        rotate_left
                        · simp only [Act.put, List.setIfInBounds_toArray, List.set_cons_zero, List.set_cons_succ, i64_w, i32_w]
                          rfl
                        refine pure_ (i := 6) (N := some 86) (v := ?_) (a' := ?_) #[true, false, true, true, true, true, true, false] rfl rfl (any_of HT_.out (by kernel_rfl)) (fun _ _ _ h => h) (Or.inl ⟨by rfl, ?_⟩) ?_ ?_
                        rotate_left
                        · intro w'
                          go_simp
                          with_reducible rfl
                        rotate_left
                        · simp only [Act.put, List.setIfInBounds_toArray, List.set_cons_zero, List.set_cons_succ, i64_w, i32_w]
                          rfl
                        refine one_ (i := 1) (N := some 81) #[true, true, true, true, true, true, true, false] rfl rfl (one_of HT_.out (by kernel_rfl)) (by decide) (fun K hK => ?_)
                        refine goes_ Try.func15 (by kernel_rfl) rfl #[.pointer (some ⟨g132, 0, none⟩)] (by rfl) rfl rfl (by (try simp only [List.map_toArray, List.map_cons, List.map_nil]); first | done | rfl | (simp only [List.length_drop, List.length_take]; rfl)) ?_
                        with_reducible refine (ids_Ids_Left.calls g132 x133000_3 x133001_3 false t135 t136 w _ ?side1 ?side2 A21.out).mono ?_
                        (case side1 => repeat (first | (with_reducible first | exact HI132.out | apply IsS92.alloc | apply IsS92.drewN | apply IsS92.drew | apply IsS92.set_0 | apply IsS92.set_1 | refine IsS92.far ?_ NB132_133.out _) | exact HI132.out))
                        (case side2 => repeat (first | (with_reducible first | exact HB.out | apply below_alloc | apply pw_below_drewN | apply below_drew1 | refine below_set ?_ (IsS92.ge HI132.out) | refine below_set ?_ GE133.out) | exact HB.out))
                        rintro e w40 ⟨rfl, hi, hb, hk⟩
                        refine ⟨_, rfl, ?_⟩
                        have n0_ := Aside0.mk (KeepBut.blk hk (g' := gb133) (o := .cells #[.int .i64 x134000_3, .int .i64 x134001_3] 46 (0, 0)) (by (with_reducible repeat (first | refine blk_drewN ?_ _ | refine blk_drew ?_ | refine blk_alloc ?_ _)); exact BK133.out) NB133_132.out (by simp))
                        have n1_ := Aside0.mk (hb)
                        have n2_ := Aside0.mk (hi)
                        clear BK133
                        clear HB
                        clear HI132
                        have BK133 := n0_
                        have HB := n1_
                        have HI132 := n2_
                        clear n0_ n1_ n2_
                        (try clear hb)
                        (try clear hb2)
                        (try clear hk)
                        (try clear hi)
                        refine hK.out _ _ ⟨(blk_cell BK133.out 0).trans rfl, (blk_cell BK133.out 1).trans rfl⟩ (fun hHeld => ?_)
                        clear hK K
                        refine norm_ (a' := ?_) ?_ ?_
                        rotate_left
                        · show Act.put _ (some 81) _ = _
                          simp only [Act.put, List.setIfInBounds_toArray, List.set_cons_zero, List.set_cons_succ, i64_w, i32_w]
                          rfl
                        refine pure_ (i := 7) (N := some 87) (v := ?_) (a' := ?_) #[true, true, true, true, true, true, true, true] rfl rfl (any_of HT_.out (by kernel_rfl)) (fun _ _ _ h => h) (Or.inl ⟨by rfl, ?_⟩) ?_ ?_
                        rotate_left
                        · intro w'
                          go_simp
                          with_reducible rfl
                        rotate_left
                        · simp only [Act.put, List.setIfInBounds_toArray, List.set_cons_zero, List.set_cons_succ, i64_w, i32_w]
                          rfl
                        refine done_ (done_of HT_.out (by kernel_rfl)) ?_
                        try go_wp2
                        go_ret
                        exact ⟨by first | rfl | (simp [errW_none, errW_some] <;> rfl) | (simp [*, errW_none, errW_some] <;> rfl), by repeat (first | (with_reducible first | exact HB.out | apply below_alloc | apply pw_below_drewN | apply below_drew1 | refine below_set ?_ (IsS92.ge HI132.out) | refine below_set ?_ GE133.out) | exact HB.out)⟩
                      · rw [if_neg c38] at H
                        have c38b0 : decide (x134001_3 ≤ 2147483647) = false := decide_eq_false c38
                        clear c38
                        replace H := Option.bind_eq_some_iff.mp H
                        obtain ⟨⟨t145, t146, t147, t148⟩, A410, H⟩ := H
                        replace H : ((bywashref1_Ids_Next.f x134000_3 x134001_3).bind fun bt149 => (if t145 = bt149.1 then (if t146 = true then (if bt149.2.1 = true then (bywashlaw18_IdsPlays.j4 k3 a0 a1 l2 x12_3 false t147 t148 bt149.2.2.1 bt149.2.2.2) else (bywashlaw18_IdsPlays.j4 k3 a0 a1 l2 x12_3 true t147 t148 bt149.2.2.1 bt149.2.2.2)) else (if bt149.2.1 = true then (bywashlaw18_IdsPlays.j4 k3 a0 a1 l2 x12_3 true t147 t148 bt149.2.2.1 bt149.2.2.2) else (bywashlaw18_IdsPlays.j4 k3 a0 a1 l2 x12_3 false t147 t148 bt149.2.2.1 bt149.2.2.2))) else (bywashlaw18_IdsPlays.j4 k3 a0 a1 l2 x12_3 true t147 t148 bt149.2.2.1 bt149.2.2.2))) = some r := H
                        have A41 := Aside0.mk A410
                        clear A410
                        replace H := Option.bind_eq_some_iff.mp H
                        obtain ⟨⟨t149, t150, t151, t152⟩, A420, H⟩ := H
                        replace H : (if t145 = t149 then (if t146 = true then (if t150 = true then (bywashlaw18_IdsPlays.j4 k3 a0 a1 l2 x12_3 false t147 t148 t151 t152) else (bywashlaw18_IdsPlays.j4 k3 a0 a1 l2 x12_3 true t147 t148 t151 t152)) else (if t150 = true then (bywashlaw18_IdsPlays.j4 k3 a0 a1 l2 x12_3 true t147 t148 t151 t152) else (bywashlaw18_IdsPlays.j4 k3 a0 a1 l2 x12_3 false t147 t148 t151 t152))) else (bywashlaw18_IdsPlays.j4 k3 a0 a1 l2 x12_3 true t147 t148 t151 t152)) = some r := H
                        have A42 := Aside0.mk A420
                        clear A420
                        have HC43 := Aside0.mk H
                        clear H
                        try go_wp2
                        have n0_ := Aside0.mk (blk_drew BK133.out)
                        have n1_ := Aside0.mk (IsS92.drew HI132.out)
                        have n2_ := Aside0.mk (below_drew1 HB.out)
                        clear BK133
                        clear HI132
                        clear HB
                        have BK133 := n0_
                        have HI132 := n1_
                        have HB := n2_
                        clear n0_ n1_ n2_
                        refine start_ (n := 8) (S := fun w' => w'.cell? ⟨gb133, 0, none⟩ = some (.int .i64 x134000_3) ∧ w'.cell? ⟨gb133, 1, none⟩ = some (.int .i64 x134001_3)) (ds := []) #[false, false, false, false, false, false, false, false] (by kernel_rfl) rfl rfl ⟨(blk_cell BK133.out 0).trans rfl, (blk_cell BK133.out 1).trans rfl⟩ (fun hHeld => ?_); refine with_tabW bywashlaw18_IdsPlays.tab14 bywashlaw18_IdsPlays.bits14 (fun HT_ HW_ => ?_)
                        generalize wr.drew = w44 at BK133 HI132 HB hHeld ⊢
                        refine pure_ (i := 0) (N := some 80) (v := ?_) (a' := ?_) #[true, false, false, false, false, false, false, false] rfl rfl (any_of HT_.out (by kernel_rfl)) (fun _ _ _ h => h) (Or.inl ⟨by rfl, ?_⟩) ?_ ?_
                        rotate_left
                        · intro w'
                          go_simp
                          with_reducible rfl
                        rotate_left
                        · simp only [Act.put, List.setIfInBounds_toArray, List.set_cons_zero, List.set_cons_succ, i64_w, i32_w]
                          rfl
                        refine pure_ (i := 2) (N := some 82) (v := ?_) (a' := ?_) #[true, false, true, false, false, false, false, false] rfl rfl (any_of HT_.out (by kernel_rfl)) (fun _ _ _ h => h) (Or.inl ⟨by rfl, ?_⟩) ?_ ?_
                        rotate_left
                        · intro w'
                          go_simp
                          with_reducible rfl
                        rotate_left
                        · simp only [Act.put, List.setIfInBounds_toArray, List.set_cons_zero, List.set_cons_succ, i64_w, i32_w]
                          rfl
                        refine pure_ (i := 3) (N := some 83) (v := ?_) (a' := ?_) #[true, false, true, true, false, false, false, false] rfl rfl (any_of HT_.out (by kernel_rfl)) (fun _ _ _ h => h) (Or.inl ⟨by rfl, ?_⟩) ?_ ?_
                        rotate_left
                        · intro w'
                          go_simp
                          with_reducible rfl
                        rotate_left
                        · simp only [Act.put, List.setIfInBounds_toArray, List.set_cons_zero, List.set_cons_succ, i64_w, i32_w]
                          rfl
                        refine pure_ (i := 4) (N := some 84) (v := ?_) (a' := ?_) #[true, false, true, true, true, false, false, false] rfl rfl (any_of HT_.out (by kernel_rfl)) (fun _ _ _ h => h) (Or.inl ⟨by rfl, ?_⟩) ?_ ?_
                        rotate_left
                        · intro w'
                          go_simp
                          with_reducible rfl
                        rotate_left
                        · simp only [Act.put, List.setIfInBounds_toArray, List.set_cons_zero, List.set_cons_succ, i64_w, i32_w]
                          rfl
                        refine take_ (i := 5) (N := some 85) (v := ?_) (a' := ?_) #[true, false, true, true, true, true, false, false] rfl rfl (take_ofW HT_.out HW_.out (by kernel_rfl)) (fun _ _ _ h => h) (Or.inl ⟨by rfl, ?_⟩) hHeld ?_ ?_
                        rotate_left
                        · rintro w' ⟨s0, s1⟩
                          go_simp
                          with_reducible rfl
                        rotate_left
                        · simp only [Act.put, List.setIfInBounds_toArray, List.set_cons_zero, List.set_cons_succ, i64_w, i32_w]
                          rfl
                        refine pure_ (i := 6) (N := some 86) (v := ?_) (a' := ?_) #[true, false, true, true, true, true, true, false] rfl rfl (any_of HT_.out (by kernel_rfl)) (fun _ _ _ h => h) (Or.inl ⟨by rfl, ?_⟩) ?_ ?_
                        rotate_left
                        · intro w'
                          go_simp
                          with_reducible rfl
                        rotate_left
                        · simp only [Act.put, List.setIfInBounds_toArray, List.set_cons_zero, List.set_cons_succ, i64_w, i32_w]
                          rfl
                        refine one_ (i := 1) (N := some 81) #[true, true, true, true, true, true, true, false] rfl rfl (one_of HT_.out (by kernel_rfl)) (by decide) (fun K hK => ?_)
                        refine goes_ Try.func15 (by kernel_rfl) rfl #[.pointer (some ⟨g132, 0, none⟩)] (by rfl) rfl rfl (by (try simp only [List.map_toArray, List.map_cons, List.map_nil]); first | done | rfl | (simp only [List.length_drop, List.length_take]; rfl)) ?_
                        with_reducible refine (ids_Ids_Left.calls g132 x133000_3 x133001_3 false t135 t136 w _ ?side1 ?side2 A21.out).mono ?_
                        (case side1 => repeat (first | (with_reducible first | exact HI132.out | apply IsS92.alloc | apply IsS92.drewN | apply IsS92.drew | apply IsS92.set_0 | apply IsS92.set_1 | refine IsS92.far ?_ NB132_133.out _) | exact HI132.out))
                        (case side2 => repeat (first | (with_reducible first | exact HB.out | apply below_alloc | apply pw_below_drewN | apply below_drew1 | refine below_set ?_ (IsS92.ge HI132.out) | refine below_set ?_ GE133.out) | exact HB.out))
                        rintro e w45 ⟨rfl, hi, hb, hk⟩
                        refine ⟨_, rfl, ?_⟩
                        have n0_ := Aside0.mk (KeepBut.blk hk (g' := gb133) (o := .cells #[.int .i64 x134000_3, .int .i64 x134001_3] 46 (0, 0)) (by (with_reducible repeat (first | refine blk_drewN ?_ _ | refine blk_drew ?_ | refine blk_alloc ?_ _)); exact BK133.out) NB133_132.out (by simp))
                        have n1_ := Aside0.mk (hb)
                        have n2_ := Aside0.mk (hi)
                        clear BK133
                        clear HB
                        clear HI132
                        have BK133 := n0_
                        have HB := n1_
                        have HI132 := n2_
                        clear n0_ n1_ n2_
                        (try clear hb)
                        (try clear hb2)
                        (try clear hk)
                        (try clear hi)
                        refine hK.out _ _ ⟨(blk_cell BK133.out 0).trans rfl, (blk_cell BK133.out 1).trans rfl⟩ (fun hHeld => ?_)
                        clear hK K
                        refine norm_ (a' := ?_) ?_ ?_
                        rotate_left
                        · show Act.put _ (some 81) _ = _
                          simp only [Act.put, List.setIfInBounds_toArray, List.set_cons_zero, List.set_cons_succ, i64_w, i32_w]
                          rfl
                        refine pure_ (i := 7) (N := some 87) (v := ?_) (a' := ?_) #[true, true, true, true, true, true, true, true] rfl rfl (any_of HT_.out (by kernel_rfl)) (fun _ _ _ h => h) (Or.inl ⟨by rfl, ?_⟩) ?_ ?_
                        rotate_left
                        · intro w'
                          go_simp
                          with_reducible rfl
                        rotate_left
                        · simp only [Act.put, List.setIfInBounds_toArray, List.set_cons_zero, List.set_cons_succ, i64_w, i32_w]
                          rfl
                        refine done_ (done_of HT_.out (by kernel_rfl)) ?_
                        go_upto_region 18 with (first | ((with_reducible refine gate_callee (f := 14) rfl ?_); refine goesL_ (some 90) rfl rfl Try.func14 (by kernel_rfl) rfl #[.pointer (some ⟨g132, 0, none⟩)] rfl (by (try simp only [List.map_toArray, List.map_cons, List.map_nil]); first | done | rfl | (simp only [List.length_drop, List.length_take]; rfl)) ?_; (with_reducible refine (ids_Ids_Next.calls g132 t135 t136 t145 t146 t147 t148 w _ ?side1 ?side2 A41.out).mono ?_); (case side1 => repeat (first | (with_reducible first | exact HI132.out | apply IsS92.alloc | apply IsS92.drewN | apply IsS92.drew | apply IsS92.set_0 | apply IsS92.set_1 | refine IsS92.far ?_ NB132_133.out _) | exact HI132.out)); (case side2 => repeat (first | (with_reducible first | exact HB.out | apply below_alloc | apply pw_below_drewN | apply below_drew1 | refine below_set ?_ (IsS92.ge HI132.out) | refine below_set ?_ GE133.out) | exact HB.out)); rintro e w46 ⟨rfl, hi, hb, hk⟩; refine ⟨_, rfl, ?_⟩; have n0_ := Aside0.mk (KeepBut.blk hk (g' := gb133) (o := .cells #[.int .i64 x134000_3, .int .i64 x134001_3] 46 (0, 0)) (by (with_reducible repeat (first | refine blk_drewN ?_ _ | refine blk_drew ?_ | refine blk_alloc ?_ _)); exact BK133.out) NB133_132.out (by simp)); have n1_ := Aside0.mk (hb); have n2_ := Aside0.mk (hi); clear BK133; clear HB; clear HI132; have BK133 := n0_; have HB := n1_; have HI132 := n2_; clear n0_ n1_ n2_; (try clear hb); (try clear hb2); (try clear hk); (try clear hi)) | ((with_reducible refine gate_callee (f := 17) rfl ?_); refine goesL_ (some 95) rfl rfl Try.func17 (by kernel_rfl) rfl #[.pointer (some ⟨gb133, 0, none⟩)] rfl (by (try simp only [List.map_toArray, List.map_cons, List.map_nil]); first | done | rfl | (simp only [List.length_drop, List.length_take]; rfl)) ?_; (with_reducible refine (bywashref1_Ids_Next.calls gb133 x134000_3 x134001_3 t149 t150 t151 t152 w _ ?side1 ?side2 A42.out).mono ?_); (case side1 => exact ⟨by (with_reducible repeat (first | refine blk_drewN ?_ _ | refine blk_drew ?_ | refine blk_alloc ?_ _)); exact BK133.out, GE133.out⟩); (case side2 => repeat (first | (with_reducible first | exact HB.out | apply below_alloc | apply pw_below_drewN | apply below_drew1 | refine below_set ?_ (IsS92.ge HI132.out) | refine below_set ?_ GE133.out) | exact HB.out)); rintro e w47 ⟨rfl, hi, hb, hk⟩; refine ⟨_, rfl, ?_⟩; have n0_ := Aside0.mk (hi.1); have n1_ := Aside0.mk ((show IsS92 w _ g132 t147 t148 from ⟨KeepBut.blk hk (show IsS92 w _ g132 t147 t148 from by repeat (first | (with_reducible first | exact HI132.out | apply IsS92.alloc | apply IsS92.drewN | apply IsS92.drew | apply IsS92.set_0 | apply IsS92.set_1 | refine IsS92.far ?_ NB132_133.out _) | exact HI132.out)).1 NB132_133.out (by simp), (HI132.out).2⟩)); have n2_ := Aside0.mk (hb); clear BK133; clear HI132; clear HB; have BK133 := n0_; have HI132 := n1_; have HB := n2_; clear n0_ n1_ n2_; (try clear hb); (try clear hb2); (try clear hk); (try clear hi)))
                        (try simp only [Act.put, List.setIfInBounds_toArray, List.set_cons_zero, List.set_cons_succ])
                        go_cut [105] (fun v105 wc => ∃ (kq : Nat) (x105_42 : Bool), v105 = .bool x105_42 ∧ Aside0 (bywashlaw18_IdsPlays.j4 kq a0 a1 l2 x12_3 x105_42 t147 t148 t151 t152 = some r) ∧ Aside0 (kq ≤ k3) ∧ Aside0 (wc.heap[gb133]? = some (.cells #[.int .i64 t151, .int .i64 t152] 46 (0, 0))) ∧ Aside0 (IsS92 w wc g132 t147 t148) ∧ Aside0 (Below w.heap.size w wc))
                        case first =>
                          have H := HC43.out
                          clear HC43
                          by_cases c48 : t145 = t149
                          · rw [if_pos c48] at H
                            have c48b0 : (t145 == t149) = true := beq_iff_eq.mpr c48
                            have c48b1 : (t145 != t149) = false := bne_eq_false_iff_eq.mpr c48
                            clear c48
                            (first | rw [c48b0] | (simp only [i64_w, i32_w]; rw [c48b0]) | skip)
                            by_cases c49 : t146 = true
                            · subst c49
                              have H1 : (if t150 = true then (bywashlaw18_IdsPlays.j4 k3 a0 a1 l2 x12_3 false t147 t148 t151 t152) else (bywashlaw18_IdsPlays.j4 k3 a0 a1 l2 x12_3 true t147 t148 t151 t152)) = some r := by rw [if_pos rfl] at H; exact H
                              clear H
                              have H := H1
                              clear H1
                              by_cases c50 : t150 = true
                              · subst c50
                                have H1 : (bywashlaw18_IdsPlays.j4 k3 a0 a1 l2 x12_3 false t147 t148 t151 t152) = some r := by rw [if_pos rfl] at H; exact H
                                clear H
                                have H := H1
                                clear H1
                                have H' := Aside0.mk H
                                clear H
                                go_wp2
                                go_meet
                                case rel => exact ⟨_, (false), (by first | rfl | (simp; done) | (simp [*]; done)), H', ⟨by have := HJ3.out; have := HJ13.out; have := HK3.out; first | omega | exact Nat.le_refl _⟩, ⟨by (with_reducible repeat (first | refine blk_drewN ?_ _ | refine blk_drew ?_ | refine blk_alloc ?_ _)); exact BK133.out⟩, ⟨by repeat (first | (with_reducible first | exact HI132.out | apply IsS92.alloc | apply IsS92.drewN | apply IsS92.drew | apply IsS92.set_0 | apply IsS92.set_1 | refine IsS92.far ?_ NB132_133.out _) | exact HI132.out)⟩, ⟨by repeat (first | (with_reducible first | exact HB.out | apply below_alloc | apply pw_below_drewN | apply below_drew1 | refine below_set ?_ (IsS92.ge HI132.out) | refine below_set ?_ GE133.out) | exact HB.out)⟩⟩
                              · replace c50 := Bool.eq_false_iff.mpr c50
                                subst c50
                                have H1 : (bywashlaw18_IdsPlays.j4 k3 a0 a1 l2 x12_3 true t147 t148 t151 t152) = some r := by rw [if_neg (show ¬ (false = true) by decide)] at H; exact H
                                clear H
                                have H := H1
                                clear H1
                                have H' := Aside0.mk H
                                clear H
                                go_wp2
                                go_meet
                                case rel => exact ⟨_, (true), (by first | rfl | (simp; done) | (simp [*]; done)), H', ⟨by have := HJ3.out; have := HJ13.out; have := HK3.out; first | omega | exact Nat.le_refl _⟩, ⟨by (with_reducible repeat (first | refine blk_drewN ?_ _ | refine blk_drew ?_ | refine blk_alloc ?_ _)); exact BK133.out⟩, ⟨by repeat (first | (with_reducible first | exact HI132.out | apply IsS92.alloc | apply IsS92.drewN | apply IsS92.drew | apply IsS92.set_0 | apply IsS92.set_1 | refine IsS92.far ?_ NB132_133.out _) | exact HI132.out)⟩, ⟨by repeat (first | (with_reducible first | exact HB.out | apply below_alloc | apply pw_below_drewN | apply below_drew1 | refine below_set ?_ (IsS92.ge HI132.out) | refine below_set ?_ GE133.out) | exact HB.out)⟩⟩
                            · replace c49 := Bool.eq_false_iff.mpr c49
                              subst c49
                              have H1 : (if t150 = true then (bywashlaw18_IdsPlays.j4 k3 a0 a1 l2 x12_3 true t147 t148 t151 t152) else (bywashlaw18_IdsPlays.j4 k3 a0 a1 l2 x12_3 false t147 t148 t151 t152)) = some r := by rw [if_neg (show ¬ (false = true) by decide)] at H; exact H
                              clear H
                              have H := H1
                              clear H1
                              by_cases c51 : t150 = true
                              · subst c51
                                have H1 : (bywashlaw18_IdsPlays.j4 k3 a0 a1 l2 x12_3 true t147 t148 t151 t152) = some r := by rw [if_pos rfl] at H; exact H
                                clear H
                                have H := H1
                                clear H1
                                have H' := Aside0.mk H
                                clear H
                                go_wp2
                                go_meet
                                case rel => exact ⟨_, (true), (by first | rfl | (simp; done) | (simp [*]; done)), H', ⟨by have := HJ3.out; have := HJ13.out; have := HK3.out; first | omega | exact Nat.le_refl _⟩, ⟨by (with_reducible repeat (first | refine blk_drewN ?_ _ | refine blk_drew ?_ | refine blk_alloc ?_ _)); exact BK133.out⟩, ⟨by repeat (first | (with_reducible first | exact HI132.out | apply IsS92.alloc | apply IsS92.drewN | apply IsS92.drew | apply IsS92.set_0 | apply IsS92.set_1 | refine IsS92.far ?_ NB132_133.out _) | exact HI132.out)⟩, ⟨by repeat (first | (with_reducible first | exact HB.out | apply below_alloc | apply pw_below_drewN | apply below_drew1 | refine below_set ?_ (IsS92.ge HI132.out) | refine below_set ?_ GE133.out) | exact HB.out)⟩⟩
                              · replace c51 := Bool.eq_false_iff.mpr c51
                                subst c51
                                have H1 : (bywashlaw18_IdsPlays.j4 k3 a0 a1 l2 x12_3 false t147 t148 t151 t152) = some r := by rw [if_neg (show ¬ (false = true) by decide)] at H; exact H
                                clear H
                                have H := H1
                                clear H1
                                have H' := Aside0.mk H
                                clear H
                                go_wp2
                                go_meet
                                case rel => exact ⟨_, (false), (by first | rfl | (simp; done) | (simp [*]; done)), H', ⟨by have := HJ3.out; have := HJ13.out; have := HK3.out; first | omega | exact Nat.le_refl _⟩, ⟨by (with_reducible repeat (first | refine blk_drewN ?_ _ | refine blk_drew ?_ | refine blk_alloc ?_ _)); exact BK133.out⟩, ⟨by repeat (first | (with_reducible first | exact HI132.out | apply IsS92.alloc | apply IsS92.drewN | apply IsS92.drew | apply IsS92.set_0 | apply IsS92.set_1 | refine IsS92.far ?_ NB132_133.out _) | exact HI132.out)⟩, ⟨by repeat (first | (with_reducible first | exact HB.out | apply below_alloc | apply pw_below_drewN | apply below_drew1 | refine below_set ?_ (IsS92.ge HI132.out) | refine below_set ?_ GE133.out) | exact HB.out)⟩⟩
                          · rw [if_neg c48] at H
                            have c48b0 : (t145 == t149) = false := beq_eq_false_iff_ne.mpr c48
                            have c48b1 : (t145 != t149) = true := bne_iff_ne.mpr c48
                            (first | rw [c48b0] | (simp only [i64_w, i32_w]; rw [c48b0]) | skip)
                            have H' := Aside0.mk H
                            clear H
                            go_wp2
                            go_meet
                            case rel => exact ⟨_, (true), (by first | rfl | (simp; done) | (simp [*]; done)), H', ⟨by have := HJ3.out; have := HJ13.out; have := HK3.out; first | omega | exact Nat.le_refl _⟩, ⟨by (with_reducible repeat (first | refine blk_drewN ?_ _ | refine blk_drew ?_ | refine blk_alloc ?_ _)); exact BK133.out⟩, ⟨by repeat (first | (with_reducible first | exact HI132.out | apply IsS92.alloc | apply IsS92.drewN | apply IsS92.drew | apply IsS92.set_0 | apply IsS92.set_1 | refine IsS92.far ?_ NB132_133.out _) | exact HI132.out)⟩, ⟨by repeat (first | (with_reducible first | exact HB.out | apply below_alloc | apply pw_below_drewN | apply below_drew1 | refine below_set ?_ (IsS92.ge HI132.out) | refine below_set ?_ GE133.out) | exact HB.out)⟩⟩
                        case rest =>
                          clear HC43
                          try clear c1
                          try clear c2
                          try clear p2
                          try clear c3
                          try clear c4
                          try clear c5
                          try clear c5b0
                          try clear c6
                          try clear c6b0
                          try clear p6
                          try clear c7
                          try clear c7b0
                          try clear c7b1
                          try clear c10
                          try clear c12
                          try clear c13
                          try clear c14
                          try clear c15
                          try clear c16
                          try clear c16b0
                          try clear c17
                          try clear c17b0
                          try clear c18
                          try clear c20
                          try clear c20b0
                          try clear c22
                          try clear c23
                          try clear c23b0
                          try clear c31
                          try clear c31b0
                          try clear c31b1
                          try clear c32
                          try clear c33
                          try clear c34
                          try clear c35
                          try clear c38
                          try clear c38b0
                          try clear c48
                          try clear c48b0
                          try clear c48b1
                          try clear c49
                          try clear c50
                          try clear c51
                          try clear p2
                          obtain ⟨kq, x105_42, rfl, HA, HJ42, BK133, HI132, HB⟩ := hcut
                          cases kq with
                          | zero => exact absurd HA.out (by simp [bywashlaw18_IdsPlays.j4])
                          | succ kj42 =>
                            have H := HA.out
                            clear HA
                            simp only [bywashlaw18_IdsPlays.j4] at H
                            by_cases c52 : x105_42 = true
                            · subst c52
                              have H1 : (some false) = some r := by rw [if_pos rfl] at H; exact H
                              clear H
                              have H := H1
                              clear H1
                              obtain rfl := Option.some.inj H
                              go_wp2
                              go_ret
                              exact ⟨by first | rfl | (simp [errW_none, errW_some] <;> rfl) | (simp [*, errW_none, errW_some] <;> rfl), by repeat (first | (with_reducible first | exact HB.out | apply below_alloc | apply pw_below_drewN | apply below_drew1 | refine below_set ?_ (IsS92.ge HI132.out) | refine below_set ?_ GE133.out) | exact HB.out)⟩
                            · replace c52 := Bool.eq_false_iff.mpr c52
                              subst c52
                              have H1 : (bywashlaw18_IdsPlays.l0 kj42 a0 a1 l2 (wrap64 (x12_3 + 1)) t147 t148 t151 t152) = some r := by rw [if_neg (show ¬ (false = true) by decide)] at H; exact H
                              clear H
                              have H := H1
                              clear H1
                              have H' := Aside0.mk H
                              clear H
                              go_wp2
                              go_roundg kj42
                              case measure => have := HJ3.out; have := HJ13.out; have := HK3.out; have := HJ42.out; omega
                              case rel => exact ⟨(wrap64 (x12_3 + 1)), (t147), (t148), (t151), (t152), (by first | rfl | (simp; done) | (simp [*]; done)), H', ⟨by have := HJ3.out; have := HJ13.out; have := HK3.out; have := HJ42.out; omega⟩, ⟨by (with_reducible repeat (first | refine blk_drewN ?_ _ | refine blk_drew ?_ | refine blk_alloc ?_ _)); exact BK133.out⟩, ⟨by repeat (first | (with_reducible first | exact HI132.out | apply IsS92.alloc | apply IsS92.drewN | apply IsS92.drew | apply IsS92.set_0 | apply IsS92.set_1 | refine IsS92.far ?_ NB132_133.out _) | exact HI132.out)⟩, ⟨by repeat (first | (with_reducible first | exact HB.out | apply below_alloc | apply pw_below_drewN | apply below_drew1 | refine below_set ?_ (IsS92.ge HI132.out) | refine below_set ?_ GE133.out) | exact HB.out)⟩⟩
                  · rw [if_neg c20] at H
                    have c20b0 : decide (x12_3 < a1) = false := decide_eq_false c20
                    clear c20
                    by_cases c53 : ([] : List Int).length + l2.length < 17592186044416
                    · rw [if_pos c53] at H
                      have LMc53 := Aside0.mk c53
                      clear c53
                      obtain ⟨y153, hy153⟩ : ∃ y_ : List Int, y_ = (([] : List Int) ++ l2) := ⟨_, rfl⟩
                      replace H : ((some (([a0, wrap64 (a0 - 2), x134001_3, wrap64 (x134001_3 - 2), 2147483647] : List Int) : List Int)).bind fun y156 => (if y153.length + y156.length < 17592186044416 then ((some (y153 ++ y156 : List Int)).bind fun y159 => (bywashlaw18_IdsPlays.l1 k3 y159 (y159.length : Int) 0 x133000_3 x133001_3 x134000_3 x134001_3)) else (none))) = some r := by first | (rw [hy153]; with_reducible exact H) | (have H2_ := (Option.bind_some _ _).symm.trans H; rw [hy153]; with_reducible exact H2_) | (have H2_ := (Option.bind_some _ _).symm.trans H; with_reducible exact H2_) | with_reducible exact H | (rw [hy153]; exact H) | exact H
                      have Ny153 := Aside0.mk hy153
                      clear hy153
                      obtain ⟨y156, hy156⟩ : ∃ y_ : List Int, y_ = (([a0, wrap64 (a0 - 2), x134001_3, wrap64 (x134001_3 - 2), 2147483647] : List Int)) := ⟨_, rfl⟩
                      replace H : (if y153.length + y156.length < 17592186044416 then ((some (y153 ++ y156 : List Int)).bind fun y159 => (bywashlaw18_IdsPlays.l1 k3 y159 (y159.length : Int) 0 x133000_3 x133001_3 x134000_3 x134001_3)) else (none)) = some r := by first | (rw [hy156]; with_reducible exact H) | (have H2_ := (Option.bind_some _ _).symm.trans H; rw [hy156]; with_reducible exact H2_) | (have H2_ := (Option.bind_some _ _).symm.trans H; with_reducible exact H2_) | with_reducible exact H | (rw [hy156]; exact H) | exact H
                      have Ny156 := Aside0.mk hy156
                      clear hy156
                      by_cases c54 : y153.length + y156.length < 17592186044416
                      · rw [if_pos c54] at H
                        have LMc54 := Aside0.mk c54
                        clear c54
                        obtain ⟨y159, hy159⟩ : ∃ y_ : List Int, y_ = (y153 ++ y156) := ⟨_, rfl⟩
                        replace H : (bywashlaw18_IdsPlays.l1 k3 y159 (y159.length : Int) 0 x133000_3 x133001_3 x134000_3 x134001_3) = some r := by first | (rw [hy159]; with_reducible exact H) | (have H2_ := (Option.bind_some _ _).symm.trans H; rw [hy159]; with_reducible exact H2_) | (have H2_ := (Option.bind_some _ _).symm.trans H; with_reducible exact H2_) | with_reducible exact H | (rw [hy159]; exact H) | exact H
                        have Ny159 := Aside0.mk hy159
                        clear hy159
                        have H' := Aside0.mk H
                        clear H
                        try go_wp2
                        have n0_ := Aside0.mk (blk_drew BK133.out)
                        have n1_ := Aside0.mk (IsS92.drew HI132.out)
                        have n2_ := Aside0.mk (below_drew1 HB.out)
                        clear BK133
                        clear HI132
                        clear HB
                        have BK133 := n0_
                        have HI132 := n1_
                        have HB := n2_
                        clear n0_ n1_ n2_
                        refine start_ (n := 18) (S := fun w' => w'.cell? ⟨gb133, 0, none⟩ = some (.int .i64 x134000_3) ∧ w'.cell? ⟨gb133, 1, none⟩ = some (.int .i64 x134001_3)) (ds := []) #[false, false, false, false, false, false, false, false, false, false, false, false, false, false, false, false, false, false] (by kernel_rfl) rfl rfl ⟨(blk_cell BK133.out 0).trans rfl, (blk_cell BK133.out 1).trans rfl⟩ (fun hHeld => ?_); refine with_tabW bywashlaw18_IdsPlays.tab20 bywashlaw18_IdsPlays.bits20 (fun HT_ HW_ => ?_)
                        generalize wr.drew = w55 at BK133 HI132 HB hHeld ⊢
                        refine pure_ (i := 0) (N := some 106) (v := ?_) (a' := ?_) #[true, false, false, false, false, false, false, false, false, false, false, false, false, false, false, false, false, false] rfl rfl (any_of HT_.out (by kernel_rfl)) (fun _ _ _ h => h) (Or.inl ⟨by rfl, ?_⟩) ?_ ?_
                        rotate_left
                        · intro w'
                          go_simp
                          with_reducible rfl
                        rotate_left
                        · simp only [Act.put, List.setIfInBounds_toArray, List.set_cons_zero, List.set_cons_succ, i64_w, i32_w]
                          rfl
                        refine pure_ (i := 2) (N := some 108) (v := ?_) (a' := ?_) #[true, false, true, false, false, false, false, false, false, false, false, false, false, false, false, false, false, false] rfl rfl (any_of HT_.out (by kernel_rfl)) (fun _ _ _ h => h) (Or.inl ⟨by rfl, ?_⟩) ?_ ?_
                        rotate_left
                        · intro w'
                          go_simp
                          with_reducible rfl
                        rotate_left
                        · simp only [Act.put, List.setIfInBounds_toArray, List.set_cons_zero, List.set_cons_succ, i64_w, i32_w]
                          rfl
                        refine pure_ (i := 3) (N := some 109) (v := ?_) (a' := ?_) #[true, false, true, true, false, false, false, false, false, false, false, false, false, false, false, false, false, false] rfl rfl (any_of HT_.out (by kernel_rfl)) (fun _ _ _ h => h) (Or.inl ⟨by rfl, ?_⟩) ?_ ?_
                        rotate_left
                        · intro w'
                          go_simp
                          with_reducible rfl
                        rotate_left
                        · simp only [Act.put, List.setIfInBounds_toArray, List.set_cons_zero, List.set_cons_succ, i64_w, i32_w]
                          rfl
                        refine pure_ (i := 4) (N := some 110) (v := ?_) (a' := ?_) #[true, false, true, true, true, false, false, false, false, false, false, false, false, false, false, false, false, false] rfl rfl (any_of HT_.out (by kernel_rfl)) (fun _ _ _ h => h) (Or.inl ⟨by rfl, ?_⟩) ?_ ?_
                        rotate_left
                        · intro w'
                          go_simp
                          with_reducible rfl
                        rotate_left
                        · simp only [Act.put, List.setIfInBounds_toArray, List.set_cons_zero, List.set_cons_succ, i64_w, i32_w]
                          rfl
                        refine pure_ (i := 5) (N := some 111) (v := ?_) (a' := ?_) #[true, false, true, true, true, true, false, false, false, false, false, false, false, false, false, false, false, false] rfl rfl (any_of HT_.out (by kernel_rfl)) (fun _ _ _ h => h) (Or.inl ⟨by rfl, ?_⟩) ?_ ?_
                        rotate_left
                        · intro w'
                          go_simp
                          with_reducible rfl
                        rotate_left
                        · simp only [Act.put, List.setIfInBounds_toArray, List.set_cons_zero, List.set_cons_succ, i64_w, i32_w]
                          rfl
                        refine pure_ (i := 6) (N := some 112) (v := ?_) (a' := ?_) #[true, false, true, true, true, true, true, false, false, false, false, false, false, false, false, false, false, false] rfl rfl (any_of HT_.out (by kernel_rfl)) (fun _ _ _ h => h) (Or.inl ⟨by rfl, ?_⟩) ?_ ?_
                        rotate_left
                        · intro w'
                          go_simp
                          with_reducible rfl
                        rotate_left
                        · simp only [Act.put, List.setIfInBounds_toArray, List.set_cons_zero, List.set_cons_succ, i64_w, i32_w]
                          rfl
                        refine pure_ (i := 7) (N := some 113) (v := ?_) (a' := ?_) #[true, false, true, true, true, true, true, true, false, false, false, false, false, false, false, false, false, false] rfl rfl (any_of HT_.out (by kernel_rfl)) (fun _ _ _ h => h) (Or.inl ⟨by rfl, ?_⟩) ?_ ?_
                        rotate_left
                        · intro w'
                          go_simp
                          with_reducible rfl
                        rotate_left
                        · simp only [Act.put, List.setIfInBounds_toArray, List.set_cons_zero, List.set_cons_succ, i64_w, i32_w]
                          rfl
                        refine pure_ (i := 9) (N := some 115) (v := ?_) (a' := ?_) #[true, false, true, true, true, true, true, true, false, true, false, false, false, false, false, false, false, false] rfl rfl (any_of HT_.out (by kernel_rfl)) (fun _ _ _ h => h) (Or.inl ⟨by rfl, ?_⟩) ?_ ?_
                        rotate_left
                        · intro w'
                          go_simp
                          with_reducible rfl
                        rotate_left
                        · simp only [Act.put, List.setIfInBounds_toArray, List.set_cons_zero, List.set_cons_succ, i64_w, i32_w]
                          rfl
                        refine pure_ (i := 10) (N := some 116) (v := ?_) (a' := ?_) #[true, false, true, true, true, true, true, true, false, true, true, false, false, false, false, false, false, false] rfl rfl (any_of HT_.out (by kernel_rfl)) (fun _ _ _ h => h) (Or.inl ⟨by rfl, ?_⟩) ?_ ?_
                        rotate_left
                        · intro w'
                          go_simp
                          with_reducible rfl
                        rotate_left
                        · simp only [Act.put, List.setIfInBounds_toArray, List.set_cons_zero, List.set_cons_succ, i64_w, i32_w]
                          rfl
                        refine pure_ (i := 11) (N := some 117) (v := ?_) (a' := ?_) #[true, false, true, true, true, true, true, true, false, true, true, true, false, false, false, false, false, false] rfl rfl (any_of HT_.out (by kernel_rfl)) (fun _ _ _ h => h) (Or.inl ⟨by rfl, ?_⟩) ?_ ?_
                        rotate_left
                        · intro w'
                          go_simp
                          with_reducible rfl
                        rotate_left
                        · simp only [Act.put, List.setIfInBounds_toArray, List.set_cons_zero, List.set_cons_succ, i64_w, i32_w]
                          rfl
                        refine pure_ (i := 17) (N := some 123) (v := ?_) (a' := ?_) #[true, false, true, true, true, true, true, true, false, true, true, true, false, false, false, false, false, true] rfl rfl (any_of HT_.out (by kernel_rfl)) (fun _ _ _ h => h) (Or.inl ⟨by rfl, ?_⟩) ?_ ?_
                        rotate_left
                        · intro w'
                          go_simp
                          with_reducible rfl
                        rotate_left
                        · simp only [Act.put, List.setIfInBounds_toArray, List.set_cons_zero, List.set_cons_succ, i64_w, i32_w]
                          rfl
                        refine take_ (i := 8) (N := some 114) (v := ?_) (a' := ?_) #[true, false, true, true, true, true, true, true, true, true, true, true, false, false, false, false, false, true] rfl rfl (take_ofW HT_.out HW_.out (by kernel_rfl)) (fun _ _ _ h => h) (Or.inl ⟨by rfl, ?_⟩) hHeld ?_ ?_
                        rotate_left
                        · rintro w' ⟨s0, s1⟩
                          go_simp
                          with_reducible rfl
                        rotate_left
                        · simp only [Act.put, List.setIfInBounds_toArray, List.set_cons_zero, List.set_cons_succ, i64_w, i32_w]
                          rfl
                        refine take_ (i := 12) (N := some 118) (v := ?_) (a' := ?_) #[true, false, true, true, true, true, true, true, true, true, true, true, true, false, false, false, false, true] rfl rfl (take_ofW HT_.out HW_.out (by kernel_rfl)) (fun _ _ _ h => h) (Or.inl ⟨by rfl, ?_⟩) hHeld ?_ ?_
                        rotate_left
                        · rintro w' ⟨s0, s1⟩
                          go_simp
                          with_reducible rfl
                        rotate_left
                        · simp only [Act.put, List.setIfInBounds_toArray, List.set_cons_zero, List.set_cons_succ, i64_w, i32_w]
                          rfl
                        refine pure_ (i := 13) (N := some 119) (v := ?_) (a' := ?_) #[true, false, true, true, true, true, true, true, true, true, true, true, true, true, false, false, false, true] rfl rfl (any_of HT_.out (by kernel_rfl)) (fun _ _ _ h => h) (Or.inl ⟨by rfl, ?_⟩) ?_ ?_
                        rotate_left
                        · intro w'
                          go_simp
                          with_reducible rfl
                        rotate_left
                        · simp only [Act.put, List.setIfInBounds_toArray, List.set_cons_zero, List.set_cons_succ, i64_w, i32_w]
                          rfl
                        refine join_ (σ := Value × Value) 2 #[true, true, true, true, true, true, true, true, true, true, true, true, true, true, true, false, false, true] (fun s_ => [(107, s_.1), (120, s_.2)]) (fun s_ w' => (w'.cell? ⟨gb133, 0, none⟩ = some (.int .i64 x134000_3) ∧ w'.cell? ⟨gb133, 1, none⟩ = some (.int .i64 x134001_3)) ∧ (Kd.R (Kd.int .i64) 3 w' w.heap.size (fun k_ => some k_ ≠ (s_.2 : Value).ownBlock) s_.1 y153) ∧ (Kd.R (Kd.int .i64) 3 w' w.heap.size (fun k_ => some k_ ≠ (s_.1 : Value).ownBlock) s_.2 y156) ∧ (w'.heap[gb133]? = some (.cells #[.int .i64 x134000_3, .int .i64 x134001_3] 46 (0, 0))) ∧ (IsS92 w w' g132 x133000_3 x133001_3) ∧ (Below w.heap.size w w')) ?_ ?_
                        rotate_left
                        · intro hCont
                          refine two_ (i := 1) (j := 14) (Ni := some 107) (Nj := some 120) #[true, true, true, true, true, true, true, true, true, true, true, true, true, true, false, false, false, true] #[true, false, true, true, true, true, true, true, true, true, true, true, true, true, true, false, false, true] rfl rfl rfl rfl (two_of HT_.out (by kernel_rfl)) (by decide) (by decide) (fun K hK => ?_) (fun K hK => ?_)
                          · skip
                            refine Kd.R_append_rows_step (Kd.int .i64) (w0 := w) w.heap.size (by rfl) (.const (.slice none 0 0)) (.tmp 106) 38 3 (.int .i64 0) 8 rfl Try.underlying38 info3 rfl (by decide) (by omega) (.slice none 0 0) ([] : List Int) l2 _ _ _ (fun _ => True) (fun _ => False) rfl rfl ?aO ?aR (fun _ _ h => h) (fun _ h => h.elim) ?aF ?aB ?aS ?aL ?_
                            (case aR => repeat (first | exact (Kd.C_below HR2.out HB.out) | (with_reducible refine Kd.C_alloc ?_ _) | (with_reducible refine Kd.C_drewN ?_ _) | (with_reducible refine Kd.C_drew ?_)))
                            (case aB => exact (by repeat (first | (with_reducible first | exact HB.out | apply below_alloc | apply pw_below_drewN | apply below_drew1 | refine below_set ?_ (IsS92.ge HI132.out) | refine below_set ?_ GE133.out) | exact HB.out)))
                            (case aF => exact (fun _ _ => trivial))
                            (case aO => exact ((Kd.R_nil _ _ _ _ (fun _ => True))))
                            (case aS => exact (below_size (by repeat (first | (with_reducible first | exact HB.out | apply below_alloc | apply pw_below_drewN | apply below_drew1 | refine below_set ?_ (IsS92.ge HI132.out) | refine below_set ?_ GE133.out) | exact HB.out))))
                            (case aL => have := LMc53.out; omega)
                            intro v154 w56 ho hb hg hat
                            rw [← Ny153.out] at ho
                            have n0_ := Aside0.mk (blk_grown (g := gb133) (o := .cells #[.int .i64 x134000_3, .int .i64 x134001_3] 46 (0, 0)) (by (with_reducible repeat (first | refine blk_drewN ?_ _ | refine blk_drew ?_ | refine blk_alloc ?_ _)); exact BK133.out) hg (by simp [Value.ownBlock]))
                            have n1_ := Aside0.mk (IsS92.grown (by repeat (first | (with_reducible first | exact HI132.out | apply IsS92.alloc | apply IsS92.drewN | apply IsS92.drew | apply IsS92.set_0 | apply IsS92.set_1 | refine IsS92.far ?_ NB132_133.out _) | exact HI132.out)) hg (by simp [Value.ownBlock]))
                            have n2_ := Aside0.mk (hb)
                            have n3_ := Aside0.mk (ho)
                            clear BK133
                            clear HI132
                            clear HB
                            have BK133 := n0_
                            have HI132 := n1_
                            have HB := n2_
                            have HO155 := n3_
                            clear n0_ n1_ n2_ n3_
                            clear ho hb hg hat
                            refine hK.out _ _ ⟨(blk_cell BK133.out 0).trans rfl, (blk_cell BK133.out 1).trans rfl⟩ (fun hHeld => ?_)
                            clear hK K
                            refine norm_ (a' := ?_) ?_ ?_
                            rotate_left
                            · show Act.put _ (some 107) _ = _
                              simp only [Act.put, List.setIfInBounds_toArray, List.set_cons_zero, List.set_cons_succ, i64_w, i32_w]
                              rfl
                            refine one_ (i := 14) (N := some 120) #[true, true, true, true, true, true, true, true, true, true, true, true, true, true, true, false, false, true] rfl rfl (one_of HT_.out (by kernel_rfl)) (by decide) (fun K hK => ?_)
                            refine Kd.R_lit_step (Kd.int .i64) _ 3 ?hg (N := 120) ?hd (xs := ([a0, wrap64 (a0 - 2), x134001_3, wrap64 (x134001_3 - 2), 2147483647] : List Int)) (inner := [.int .i64 a0, .int .i64 (wrap64 (a0 - 2)), .int .i64 x134001_3, .int .i64 (wrap64 (x134001_3 - 2)), .int .i64 2147483647]) (ok := fun _ => True) (okp := fun _ => True) ?hr ?hp (fun _ hk => hk) trivial (Below.refl _ _) (Nat.le_refl _) (by simp) ?_; (case hd => rfl); (case hg => rfl); (case hr => first | (go_simp; done) | (go_simp; rfl)); (case hp => exact (Reps.one (show Kd.M (Kd.int .i64) _ _ _ a0 [.int .i64 a0] from rfl) (Reps.one (show Kd.M (Kd.int .i64) _ _ _ (wrap64 (a0 - 2)) [.int .i64 (wrap64 (a0 - 2))] from rfl) (Reps.one (show Kd.M (Kd.int .i64) _ _ _ x134001_3 [.int .i64 x134001_3] from rfl) (Reps.one (show Kd.M (Kd.int .i64) _ _ _ (wrap64 (x134001_3 - 2)) [.int .i64 (wrap64 (x134001_3 - 2))] from rfl) (Reps.one (show Kd.M (Kd.int .i64) _ _ _ 2147483647 [.int .i64 2147483647] from rfl) (Reps.none _ _)))))))
                            intro v157 w57 ho58 hb hg_ hnew_
                            clear hg_ hnew_
                            (first | rw [← Ny156.out] at ho58 | (simp only [Int.reduceToNat] at ho58; rw [← Ny156.out] at ho58))
                            have n0_ := Aside0.mk (Kd.R_elder' (by (with_reducible repeat (first | apply Kd.R_alloc | apply Kd.R_drewN | apply Kd.R_drew)); exact HO155.out) (Kd.R_base ho58) hb)
                            have n1_ := Aside0.mk (Kd.R_lower (Kd.R_new' ho58 (Kd.R_lt (by (with_reducible repeat (first | apply Kd.R_alloc | apply Kd.R_drewN | apply Kd.R_drew)); exact HO155.out))) (below_size (by repeat (first | (with_reducible first | exact HB.out | apply below_alloc | apply pw_below_drewN | apply below_drew1 | refine below_set ?_ (IsS92.ge HI132.out) | refine below_set ?_ GE133.out) | exact HB.out))))
                            have n2_ := Aside0.mk (blk_below (g := gb133) (o := .cells #[.int .i64 x134000_3, .int .i64 x134001_3] 46 (0, 0)) (by (with_reducible repeat (first | refine blk_drewN ?_ _ | refine blk_drew ?_ | refine blk_alloc ?_ _)); exact BK133.out) hb)
                            have n3_ := Aside0.mk (IsS92.below (by repeat (first | (with_reducible first | exact HI132.out | apply IsS92.alloc | apply IsS92.drewN | apply IsS92.drew | apply IsS92.set_0 | apply IsS92.set_1 | refine IsS92.far ?_ NB132_133.out _) | exact HI132.out)) hb)
                            have n4_ := Aside0.mk (below_step (by repeat (first | (with_reducible first | exact HB.out | apply below_alloc | apply pw_below_drewN | apply below_drew1 | refine below_set ?_ (IsS92.ge HI132.out) | refine below_set ?_ GE133.out) | exact HB.out)) hb)
                            clear HO155
                            clear BK133
                            clear HI132
                            clear HB
                            have HO155 := n0_
                            have HO158 := n1_
                            have BK133 := n2_
                            have HI132 := n3_
                            have HB := n4_
                            clear n0_ n1_ n2_ n3_ n4_
                            clear hb ho58
                            refine hK.out _ _ ⟨(blk_cell BK133.out 0).trans rfl, (blk_cell BK133.out 1).trans rfl⟩ (fun hHeld => ?_)
                            clear hK K
                            refine norm_ (a' := ?_) ?_ ?_
                            rotate_left
                            · show Act.put _ (some 120) _ = _
                              simp only [Act.put, List.setIfInBounds_toArray, List.set_cons_zero, List.set_cons_succ, i64_w, i32_w]
                              rfl
                            exact norm_ (by simp only [putAll, Act.put, List.setIfInBounds_toArray, List.set_cons_zero, List.set_cons_succ]) (hCont (v154, v157) _ ⟨hHeld, (by (with_reducible repeat (first | apply Kd.R_alloc | apply Kd.R_drewN | apply Kd.R_drew)); exact Kd.R_mono HO155.out (fun _ hk => hk.2)), (by (with_reducible repeat (first | apply Kd.R_alloc | apply Kd.R_drewN | apply Kd.R_drew)); exact Kd.R_mono HO158.out (fun _ hk => hk.2)), (by (with_reducible repeat (first | refine blk_drewN ?_ _ | refine blk_drew ?_ | refine blk_alloc ?_ _)); exact BK133.out), (by repeat (first | (with_reducible first | exact HI132.out | apply IsS92.alloc | apply IsS92.drewN | apply IsS92.drew | apply IsS92.set_0 | apply IsS92.set_1 | refine IsS92.far ?_ NB132_133.out _) | exact HI132.out)), (by repeat (first | (with_reducible first | exact HB.out | apply below_alloc | apply pw_below_drewN | apply below_drew1 | refine below_set ?_ (IsS92.ge HI132.out) | refine below_set ?_ GE133.out) | exact HB.out))⟩)
                          · skip
                            refine Kd.R_lit_step (Kd.int .i64) _ 3 ?hg (N := 120) ?hd (xs := ([a0, wrap64 (a0 - 2), x134001_3, wrap64 (x134001_3 - 2), 2147483647] : List Int)) (inner := [.int .i64 a0, .int .i64 (wrap64 (a0 - 2)), .int .i64 x134001_3, .int .i64 (wrap64 (x134001_3 - 2)), .int .i64 2147483647]) (ok := fun _ => True) (okp := fun _ => True) ?hr ?hp (fun _ hk => hk) trivial (Below.refl _ _) (Nat.le_refl _) (by simp) ?_; (case hd => rfl); (case hg => rfl); (case hr => first | (go_simp; done) | (go_simp; rfl)); (case hp => exact (Reps.one (show Kd.M (Kd.int .i64) _ _ _ a0 [.int .i64 a0] from rfl) (Reps.one (show Kd.M (Kd.int .i64) _ _ _ (wrap64 (a0 - 2)) [.int .i64 (wrap64 (a0 - 2))] from rfl) (Reps.one (show Kd.M (Kd.int .i64) _ _ _ x134001_3 [.int .i64 x134001_3] from rfl) (Reps.one (show Kd.M (Kd.int .i64) _ _ _ (wrap64 (x134001_3 - 2)) [.int .i64 (wrap64 (x134001_3 - 2))] from rfl) (Reps.one (show Kd.M (Kd.int .i64) _ _ _ 2147483647 [.int .i64 2147483647] from rfl) (Reps.none _ _)))))))
                            intro v157 w56 ho57 hb hg_ hnew_
                            clear hg_ hnew_
                            (first | rw [← Ny156.out] at ho57 | (simp only [Int.reduceToNat] at ho57; rw [← Ny156.out] at ho57))
                            have n0_ := Aside0.mk (Kd.R_lower ho57 (below_size (by repeat (first | (with_reducible first | exact HB.out | apply below_alloc | apply pw_below_drewN | apply below_drew1 | refine below_set ?_ (IsS92.ge HI132.out) | refine below_set ?_ GE133.out) | exact HB.out))))
                            have n1_ := Aside0.mk (blk_below (g := gb133) (o := .cells #[.int .i64 x134000_3, .int .i64 x134001_3] 46 (0, 0)) (by (with_reducible repeat (first | refine blk_drewN ?_ _ | refine blk_drew ?_ | refine blk_alloc ?_ _)); exact BK133.out) hb)
                            have n2_ := Aside0.mk (IsS92.below (by repeat (first | (with_reducible first | exact HI132.out | apply IsS92.alloc | apply IsS92.drewN | apply IsS92.drew | apply IsS92.set_0 | apply IsS92.set_1 | refine IsS92.far ?_ NB132_133.out _) | exact HI132.out)) hb)
                            have n3_ := Aside0.mk (below_step (by repeat (first | (with_reducible first | exact HB.out | apply below_alloc | apply pw_below_drewN | apply below_drew1 | refine below_set ?_ (IsS92.ge HI132.out) | refine below_set ?_ GE133.out) | exact HB.out)) hb)
                            clear BK133
                            clear HI132
                            clear HB
                            have HO158 := n0_
                            have BK133 := n1_
                            have HI132 := n2_
                            have HB := n3_
                            clear n0_ n1_ n2_ n3_
                            clear hb ho57
                            refine hK.out _ _ ⟨(blk_cell BK133.out 0).trans rfl, (blk_cell BK133.out 1).trans rfl⟩ (fun hHeld => ?_)
                            clear hK K
                            refine norm_ (a' := ?_) ?_ ?_
                            rotate_left
                            · show Act.put _ (some 120) _ = _
                              simp only [Act.put, List.setIfInBounds_toArray, List.set_cons_zero, List.set_cons_succ, i64_w, i32_w]
                              rfl
                            refine one_ (i := 1) (N := some 107) #[true, true, true, true, true, true, true, true, true, true, true, true, true, true, true, false, false, true] rfl rfl (one_of HT_.out (by kernel_rfl)) (by decide) (fun K hK => ?_)
                            refine Kd.R_append_rows_step (Kd.int .i64) (w0 := w) w.heap.size (by rfl) (.const (.slice none 0 0)) (.tmp 106) 38 3 (.int .i64 0) 8 rfl Try.underlying38 info3 rfl (by decide) (by omega) (.slice none 0 0) ([] : List Int) l2 _ _ _ (fun k_ => some k_ ≠ (v157 : Value).ownBlock) (fun _ => False) rfl rfl ?aO ?aR (fun _ _ h => h) (fun _ h => h.elim) ?aF ?aB ?aS ?aL ?_
                            (case aR => repeat (first | exact (Kd.C_below HR2.out HB.out) | (with_reducible refine Kd.C_alloc ?_ _) | (with_reducible refine Kd.C_drewN ?_ _) | (with_reducible refine Kd.C_drew ?_)))
                            (case aB => exact (by repeat (first | (with_reducible first | exact HB.out | apply below_alloc | apply pw_below_drewN | apply below_drew1 | refine below_set ?_ (IsS92.ge HI132.out) | refine below_set ?_ GE133.out) | exact HB.out)))
                            (case aF => exact (fun k_ hk => Kd.fresh' (Kd.R_lt (by (with_reducible repeat (first | apply Kd.R_alloc | apply Kd.R_drewN | apply Kd.R_drew)); exact HO158.out)) k_ hk))
                            (case aO => exact ((Kd.R_nil _ _ _ _ (fun k_ => some k_ ≠ (v157 : Value).ownBlock))))
                            (case aS => exact (below_size (by repeat (first | (with_reducible first | exact HB.out | apply below_alloc | apply pw_below_drewN | apply below_drew1 | refine below_set ?_ (IsS92.ge HI132.out) | refine below_set ?_ GE133.out) | exact HB.out))))
                            (case aL => have := LMc53.out; omega)
                            intro v154 w58 ho hb hg hat
                            rw [← Ny153.out] at ho
                            have n0_ := Aside0.mk (blk_grown (g := gb133) (o := .cells #[.int .i64 x134000_3, .int .i64 x134001_3] 46 (0, 0)) (by (with_reducible repeat (first | refine blk_drewN ?_ _ | refine blk_drew ?_ | refine blk_alloc ?_ _)); exact BK133.out) hg (by simp [Value.ownBlock]))
                            have n1_ := Aside0.mk (IsS92.grown (by repeat (first | (with_reducible first | exact HI132.out | apply IsS92.alloc | apply IsS92.drewN | apply IsS92.drew | apply IsS92.set_0 | apply IsS92.set_1 | refine IsS92.far ?_ NB132_133.out _) | exact HI132.out)) hg (by simp [Value.ownBlock]))
                            have n2_ := Aside0.mk (Kd.R_after (Kd.R_apart_nil (by (with_reducible repeat (first | apply Kd.R_alloc | apply Kd.R_drewN | apply Kd.R_drew)); exact HO158.out)) hg hat)
                            have n3_ := Aside0.mk (hb)
                            have n4_ := Aside0.mk (ho)
                            clear BK133
                            clear HI132
                            clear HO158
                            clear HB
                            have BK133 := n0_
                            have HI132 := n1_
                            have HO158 := n2_
                            have HB := n3_
                            have HO155 := n4_
                            clear n0_ n1_ n2_ n3_ n4_
                            clear ho hb hg hat
                            refine hK.out _ _ ⟨(blk_cell BK133.out 0).trans rfl, (blk_cell BK133.out 1).trans rfl⟩ (fun hHeld => ?_)
                            clear hK K
                            refine norm_ (a' := ?_) ?_ ?_
                            rotate_left
                            · show Act.put _ (some 107) _ = _
                              simp only [Act.put, List.setIfInBounds_toArray, List.set_cons_zero, List.set_cons_succ, i64_w, i32_w]
                              rfl
                            exact norm_ (by simp only [putAll, Act.put, List.setIfInBounds_toArray, List.set_cons_zero, List.set_cons_succ]) (hCont (v154, v157) _ ⟨hHeld, (by (with_reducible repeat (first | apply Kd.R_alloc | apply Kd.R_drewN | apply Kd.R_drew)); exact HO155.out), (by (with_reducible repeat (first | apply Kd.R_alloc | apply Kd.R_drewN | apply Kd.R_drew)); exact Kd.R_mono HO158.out (fun _ hk => hk.2)), (by (with_reducible repeat (first | refine blk_drewN ?_ _ | refine blk_drew ?_ | refine blk_alloc ?_ _)); exact BK133.out), (by repeat (first | (with_reducible first | exact HI132.out | apply IsS92.alloc | apply IsS92.drewN | apply IsS92.drew | apply IsS92.set_0 | apply IsS92.set_1 | refine IsS92.far ?_ NB132_133.out _) | exact HI132.out)), (by repeat (first | (with_reducible first | exact HB.out | apply below_alloc | apply pw_below_drewN | apply below_drew1 | refine below_set ?_ (IsS92.ge HI132.out) | refine below_set ?_ GE133.out) | exact HB.out))⟩)
                        rintro ⟨v154, v157⟩ w59 ⟨hS_, h0_, h1_, h2_, h3_, h4_⟩
                        have n0_ : Aside0 (Kd.R (Kd.int .i64) 3 w59 w.heap.size (fun k_ => some k_ ≠ (v157 : Value).ownBlock) v154 y153) := ⟨h0_⟩
                        have n1_ : Aside0 (Kd.R (Kd.int .i64) 3 w59 w.heap.size (fun k_ => some k_ ≠ (v154 : Value).ownBlock) v157 y156) := ⟨h1_⟩
                        have n2_ : Aside0 (w59.heap[gb133]? = some (.cells #[.int .i64 x134000_3, .int .i64 x134001_3] 46 (0, 0))) := ⟨h2_⟩
                        have n3_ : Aside0 (IsS92 w w59 g132 x133000_3 x133001_3) := ⟨h3_⟩
                        have n4_ : Aside0 (Below w.heap.size w w59) := ⟨h4_⟩
                        clear BK133
                        clear HI132
                        clear HB
                        clear h0_ h1_ h2_ h3_ h4_
                        have HO155 := n0_
                        have HO158 := n1_
                        have BK133 := n2_
                        have HI132 := n3_
                        have HB := n4_
                        clear n0_ n1_ n2_ n3_ n4_
                        have hHeld : w59.cell? ⟨gb133, 0, none⟩ = some (.int .i64 x134000_3) ∧ w59.cell? ⟨gb133, 1, none⟩ = some (.int .i64 x134001_3) := hS_
                        obtain ⟨Ao61, co61, eo61⟩ := Kd.R_slice HO158.out
                        (first | subst eo61 | (injection eo61 with f1_ f2_ f3_; have f4_ := f1_.symm; have f5_ := f3_.symm; clear f1_ f2_ f3_; subst f4_; subst f5_))
                        refine norm_ (a' := ?_) ?_ ?_
                        rotate_left
                        · simp only [putAll, Act.put, List.setIfInBounds_toArray, List.set_cons_zero, List.set_cons_succ]
                          rfl
                        refine one_ (i := 15) (N := some 121) #[true, true, true, true, true, true, true, true, true, true, true, true, true, true, true, true, false, true] rfl rfl (one_of HT_.out (by kernel_rfl)) (by decide) (fun K hK => ?_)
                        refine Kd.R_append_rows_step (Kd.int .i64) (w0 := w) w.heap.size (by rfl) (.tmp 107) (.tmp 120) 38 3 (.int .i64 0) 8 rfl Try.underlying38 info3 rfl (by decide) (by omega) v154 y153 y156 _ _ _ (fun k_ => some k_ ≠ (.slice Ao61 y156.length co61 : Value).ownBlock) (fun _ => False) rfl rfl ?aO ?aR (fun _ _ h => h) (fun _ h => h.elim) ?aF ?aB ?aS ?aL ?_
                        (case aR => repeat (first | exact (Kd.R_reads' HO158.out).2.2 | (with_reducible refine Kd.C_alloc ?_ _) | (with_reducible refine Kd.C_drewN ?_ _) | (with_reducible refine Kd.C_drew ?_)))
                        (case aB => exact (by repeat (first | (with_reducible first | exact HB.out | apply below_alloc | apply pw_below_drewN | apply below_drew1 | refine below_set ?_ (IsS92.ge HI132.out) | refine below_set ?_ GE133.out) | exact HB.out)))
                        (case aF => exact (fun k_ hk => Kd.fresh' (Kd.R_lt (by (with_reducible repeat (first | apply Kd.R_alloc | apply Kd.R_drewN | apply Kd.R_drew)); exact HO158.out)) k_ hk))
                        (case aO => exact (by (with_reducible repeat (first | apply Kd.R_alloc | apply Kd.R_drewN | apply Kd.R_drew)); exact HO155.out))
                        (case aS => exact (below_size (by repeat (first | (with_reducible first | exact HB.out | apply below_alloc | apply pw_below_drewN | apply below_drew1 | refine below_set ?_ (IsS92.ge HI132.out) | refine below_set ?_ GE133.out) | exact HB.out))))
                        (case aL => have := LMc54.out; omega)
                        intro v160 w60 ho hb hg hat
                        rw [← Ny159.out] at ho
                        have n0_ := Aside0.mk (blk_grown (g := gb133) (o := .cells #[.int .i64 x134000_3, .int .i64 x134001_3] 46 (0, 0)) (by (with_reducible repeat (first | refine blk_drewN ?_ _ | refine blk_drew ?_ | refine blk_alloc ?_ _)); exact BK133.out) hg (Kd.R_ne HO155.out BK133.out (by decide)))
                        have n1_ := Aside0.mk (IsS92.grown (by repeat (first | (with_reducible first | exact HI132.out | apply IsS92.alloc | apply IsS92.drewN | apply IsS92.drew | apply IsS92.set_0 | apply IsS92.set_1 | refine IsS92.far ?_ NB132_133.out _) | exact HI132.out)) hg (IsS92.own_ne HI132.out HO155.out (by decide)))
                        have n2_ := Aside0.mk (Kd.R_after (ok := (fun _ => True)) (by (with_reducible repeat (first | apply Kd.R_alloc | apply Kd.R_drewN | apply Kd.R_drew)); exact Kd.R_mono HO158.out (fun _ hk => ⟨trivial, hk⟩)) hg hat)
                        have n3_ := Aside0.mk (hb)
                        have n4_ := Aside0.mk (ho)
                        clear BK133
                        clear HI132
                        clear HO158
                        clear HB
                        clear HO155
                        have BK133 := n0_
                        have HI132 := n1_
                        have HO158 := n2_
                        have HB := n3_
                        have HO161 := n4_
                        clear n0_ n1_ n2_ n3_ n4_
                        clear ho hb hg hat
                        obtain ⟨Ao62, co62, eo62⟩ := Kd.R_slice HO161.out
                        (first | subst eo62 | (injection eo62 with f1_ f2_ f3_; have f4_ := f1_.symm; have f5_ := f3_.symm; clear f1_ f2_ f3_; subst f4_; subst f5_))
                        refine hK.out _ _ ⟨(blk_cell BK133.out 0).trans rfl, (blk_cell BK133.out 1).trans rfl⟩ (fun hHeld => ?_)
                        clear hK K
                        refine norm_ (a' := ?_) ?_ ?_
                        rotate_left
                        · show Act.put _ (some 121) _ = _
                          simp only [Act.put, List.setIfInBounds_toArray, List.set_cons_zero, List.set_cons_succ, i64_w, i32_w]
                          rfl
                        refine pure_ (i := 16) (N := some 122) (v := ?_) (a' := ?_) #[true, true, true, true, true, true, true, true, true, true, true, true, true, true, true, true, true, true] rfl rfl (any_of HT_.out (by kernel_rfl)) (fun _ _ _ h => h) (Or.inl ⟨by rfl, ?_⟩) ?_ ?_
                        rotate_left
                        · intro w'
                          go_simp
                          with_reducible rfl
                        rotate_left
                        · simp only [Act.put, List.setIfInBounds_toArray, List.set_cons_zero, List.set_cons_succ, i64_w, i32_w]
                          rfl
                        refine done_ (done_of HT_.out (by kernel_rfl)) ?_
                        try go_wp2
                        go_loopg [123] k3 (fun kq v123 w' => ∃ (x123_4 : Int) (x133000_4 : Int) (x133001_4 : Int) (x134000_4 : Int) (x134001_4 : Int), v123 = .int .i64 x123_4 ∧ Aside0 (bywashlaw18_IdsPlays.l1 kq y159 (y159.length : Int) x123_4 x133000_4 x133001_4 x134000_4 x134001_4 = some r) ∧ Aside0 (kq ≤ k3) ∧ Aside0 (Kd.R (Kd.int .i64) 3 w' w.heap.size (fun _ => True) (.slice Ao62 y159.length co62) y159) ∧ Aside0 (w'.heap[gb133]? = some (.cells #[.int .i64 x134000_4, .int .i64 x134001_4] 46 (0, 0))) ∧ Aside0 (IsS92 w w' g132 x133000_4 x133001_4) ∧ Aside0 (Below w.heap.size w w'))
                        case atStart => exact ⟨(0), (x133000_3), (x133001_3), (x134000_3), (x134001_3), (by first | rfl | (simp; done) | (simp [*]; done)), H', ⟨Nat.le_refl _⟩, ⟨by (with_reducible repeat (first | apply Kd.R_alloc | apply Kd.R_drewN | apply Kd.R_drew)); exact Kd.R_mono HO161.out (fun _ hk => trivial)⟩, ⟨by (with_reducible repeat (first | refine blk_drewN ?_ _ | refine blk_drew ?_ | refine blk_alloc ?_ _)); exact BK133.out⟩, ⟨by repeat (first | (with_reducible first | exact HI132.out | apply IsS92.alloc | apply IsS92.drewN | apply IsS92.drew | apply IsS92.set_0 | apply IsS92.set_1 | refine IsS92.far ?_ NB132_133.out _) | exact HI132.out)⟩, ⟨by repeat (first | (with_reducible first | exact HB.out | apply below_alloc | apply pw_below_drewN | apply below_drew1 | refine below_set ?_ (IsS92.ge HI132.out) | refine below_set ?_ GE133.out) | exact HB.out)⟩⟩
                        case round =>
                          clear H'
                          try clear c1
                          try clear c2
                          try clear p2
                          try clear c3
                          try clear c4
                          try clear c5
                          try clear c5b0
                          try clear c6
                          try clear c6b0
                          try clear p6
                          try clear c7
                          try clear c7b0
                          try clear c7b1
                          try clear c10
                          try clear c12
                          try clear c13
                          try clear c14
                          try clear c15
                          try clear c16
                          try clear c16b0
                          try clear c17
                          try clear c17b0
                          try clear c18
                          try clear c20
                          try clear c20b0
                          try clear c22
                          try clear c23
                          try clear c23b0
                          try clear c31
                          try clear c31b0
                          try clear c31b1
                          try clear c32
                          try clear c33
                          try clear c34
                          try clear c35
                          try clear c38
                          try clear c38b0
                          try clear c48
                          try clear c48b0
                          try clear c48b1
                          try clear c49
                          try clear c50
                          try clear c51
                          try clear c52
                          try clear c53
                          try clear c54
                          try clear p2
                          try clear p6
                          obtain ⟨x123_4, x133000_4, x133001_4, x134000_4, x134001_4, rfl, HA, HK4, HO_121, BK133, HI132, HB⟩ := hrel
                          cases gk with
                          | zero => exact absurd HA.out (by simp [bywashlaw18_IdsPlays.l1])
                          | succ k4 =>
                            have H := HA.out
                            clear HA
                            simp only [bywashlaw18_IdsPlays.l1] at H
                            by_cases c63 : x123_4 < (y159.length : Int)
                            · rw [if_pos c63] at H
                              have c63b0 : decide (x123_4 < (y159.length : Int)) = true := decide_eq_true c63
                              clear c63
                              by_cases c64 : 0 ≤ x123_4
                              · rw [if_pos c64] at H
                                have c64b0 : decide (0 ≤ x123_4) = true := decide_eq_true c64
                                clear c64
                                by_cases c65 : x123_4 < (y159.length : Int)
                                · rw [if_pos c65] at H
                                  have c65b0 : decide (x123_4 < (y159.length : Int)) = true := decide_eq_true c65
                                  clear c65
                                  replace H := Option.bind_eq_some_iff.mp H
                                  obtain ⟨⟨t163, t164, t165⟩, A660, H⟩ := H
                                  replace H : ((bywashref1_Ids_Kind.f k4 x134000_4 x134001_4 (rd y159 x123_4)).bind fun bt166 => (if t163 = bt166.1 then (bywashlaw18_IdsPlays.l1 k4 y159 (y159.length : Int) (wrap64 (x123_4 + 1)) t164 t165 bt166.2.1 bt166.2.2) else (some false))) = some r := H
                                  have A66 := Aside0.mk A660
                                  clear A660
                                  replace H := Option.bind_eq_some_iff.mp H
                                  obtain ⟨⟨t166, t167, t168⟩, A670, H⟩ := H
                                  replace H : (if t163 = t166 then (bywashlaw18_IdsPlays.l1 k4 y159 (y159.length : Int) (wrap64 (x123_4 + 1)) t164 t165 t167 t168) else (some false)) = some r := H
                                  have A67 := Aside0.mk A670
                                  clear A670
                                  by_cases c68 : t163 = t166
                                  · rw [if_pos c68] at H
                                    have c68b0 : (t163 == t166) = true := beq_iff_eq.mpr c68
                                    have c68b1 : (t163 != t166) = false := bne_eq_false_iff_eq.mpr c68
                                    clear c68
                                    have H' := Aside0.mk H
                                    clear H
                                    have p162 : 0 ≤ (x123_4 : Int) := of_decide_eq_true (by first | (with_reducible assumption) | assumption)
                                    have q162 : x123_4 < (y159.length : Int) := of_decide_eq_true (by first | (with_reducible assumption) | assumption)
                                    obtain ⟨ad162, e162, hx162_0⟩ := Kd.at_int (Kd.R_reads' HO_121.out).2.2 x123_4 p162 q162
                                    cases e162
                                    replace p162 := eq_true p162
                                    replace q162 := eq_true q162
                                    go_wp2_with (first | ((with_reducible refine gate_callee (f := 16) rfl ?_); refine goesL_ (some 129) rfl rfl Try.func16 (by kernel_rfl) rfl #[.pointer (some ⟨g132, 0, none⟩), .int .i64 (rd y159 x123_4)] rfl (by (try simp only [List.map_toArray, List.map_cons, List.map_nil]); first | done | rfl | (simp only [List.length_drop, List.length_take]; rfl)) ?_; (with_reducible refine (ids_Ids_Kind.calls k4 g132 x133000_4 x133001_4 (rd y159 x123_4) t163 t164 t165 w _ ?side1 ?side2 A66.out).mono ?_); (case side1 => repeat (first | (with_reducible first | exact HI132.out | apply IsS92.alloc | apply IsS92.drewN | apply IsS92.drew | apply IsS92.set_0 | apply IsS92.set_1 | refine IsS92.far ?_ NB132_133.out _) | exact HI132.out)); (case side2 => repeat (first | (with_reducible first | exact HB.out | apply below_alloc | apply pw_below_drewN | apply below_drew1 | refine below_set ?_ (IsS92.ge HI132.out) | refine below_set ?_ GE133.out) | exact HB.out)); rintro e w69 ⟨rfl, hi, hb, hk⟩; refine ⟨_, rfl, ?_⟩; have n0_ := Aside0.mk (Kd.R_mono (Kd.R_keep (IsS92.apart (show IsS92 w _ g132 x133000_4 x133001_4 from by repeat (first | (with_reducible first | exact HI132.out | apply IsS92.alloc | apply IsS92.drewN | apply IsS92.drew | apply IsS92.set_0 | apply IsS92.set_1 | refine IsS92.far ?_ NB132_133.out _) | exact HI132.out)) (by (with_reducible repeat (first | apply Kd.R_alloc | apply Kd.R_drewN | apply Kd.R_drew)); exact HO_121.out) (by decide)) hk (fun _ h => h.2)) (fun _ h => h.1)); have n1_ := Aside0.mk (KeepBut.blk hk (g' := gb133) (o := .cells #[.int .i64 x134000_4, .int .i64 x134001_4] 46 (0, 0)) (by (with_reducible repeat (first | refine blk_drewN ?_ _ | refine blk_drew ?_ | refine blk_alloc ?_ _)); exact BK133.out) NB133_132.out (by simp)); have n2_ := Aside0.mk (hb); have n3_ := Aside0.mk (hi); clear HO_121; clear BK133; clear HB; clear HI132; have HO_121 := n0_; have BK133 := n1_; have HB := n2_; have HI132 := n3_; clear n0_ n1_ n2_ n3_; (try clear hb); (try clear hb2); (try clear hk); (try clear hi)) | ((with_reducible refine gate_callee (f := 18) rfl ?_); refine goesL_ (some 132) rfl rfl Try.func18 (by kernel_rfl) rfl #[.pointer (some ⟨gb133, 0, none⟩), .int .i64 (rd y159 x123_4)] rfl (by (try simp only [List.map_toArray, List.map_cons, List.map_nil]); first | done | rfl | (simp only [List.length_drop, List.length_take]; rfl)) ?_; (with_reducible refine (bywashref1_Ids_Kind.calls k4 gb133 x134000_4 x134001_4 (rd y159 x123_4) t166 t167 t168 w _ ?side1 ?side2 A67.out).mono ?_); (case side1 => exact ⟨by (with_reducible repeat (first | refine blk_drewN ?_ _ | refine blk_drew ?_ | refine blk_alloc ?_ _)); exact BK133.out, GE133.out⟩); (case side2 => repeat (first | (with_reducible first | exact HB.out | apply below_alloc | apply pw_below_drewN | apply below_drew1 | refine below_set ?_ (IsS92.ge HI132.out) | refine below_set ?_ GE133.out) | exact HB.out)); rintro e w70 ⟨rfl, hi, hb, hk⟩; refine ⟨_, rfl, ?_⟩; have n0_ := Aside0.mk (Kd.R_mono (Kd.R_keep (Kd.R_types (by (with_reducible repeat (first | apply Kd.R_alloc | apply Kd.R_drewN | apply Kd.R_drew)); exact HO_121.out) (show _ from (by (with_reducible repeat (first | refine blk_drewN ?_ _ | refine blk_drew ?_ | refine blk_alloc ?_ _)); exact BK133.out)) (by decide)) hk (fun _ h => h.2)) (fun _ h => h.1)); have n1_ := Aside0.mk (hi.1); have n2_ := Aside0.mk ((show IsS92 w _ g132 t164 t165 from ⟨KeepBut.blk hk (show IsS92 w _ g132 t164 t165 from by repeat (first | (with_reducible first | exact HI132.out | apply IsS92.alloc | apply IsS92.drewN | apply IsS92.drew | apply IsS92.set_0 | apply IsS92.set_1 | refine IsS92.far ?_ NB132_133.out _) | exact HI132.out)).1 NB132_133.out (by simp), (HI132.out).2⟩)); have n3_ := Aside0.mk (hb); clear HO_121; clear BK133; clear HI132; clear HB; have HO_121 := n0_; have BK133 := n1_; have HI132 := n2_; have HB := n3_; clear n0_ n1_ n2_ n3_; (try clear hb); (try clear hb2); (try clear hk); (try clear hi)))
                                    go_roundg k4
                                    case measure => have := HJ3.out; have := HJ13.out; have := HK3.out; have := HK4.out; omega
                                    case rel => exact ⟨(wrap64 (x123_4 + 1)), (t164), (t165), (t167), (t168), (by first | rfl | (simp; done) | (simp [*]; done)), H', ⟨by have := HJ3.out; have := HJ13.out; have := HK3.out; have := HK4.out; omega⟩, ⟨by (with_reducible repeat (first | apply Kd.R_alloc | apply Kd.R_drewN | apply Kd.R_drew)); exact HO_121.out⟩, ⟨by (with_reducible repeat (first | refine blk_drewN ?_ _ | refine blk_drew ?_ | refine blk_alloc ?_ _)); exact BK133.out⟩, ⟨by repeat (first | (with_reducible first | exact HI132.out | apply IsS92.alloc | apply IsS92.drewN | apply IsS92.drew | apply IsS92.set_0 | apply IsS92.set_1 | refine IsS92.far ?_ NB132_133.out _) | exact HI132.out)⟩, ⟨by repeat (first | (with_reducible first | exact HB.out | apply below_alloc | apply pw_below_drewN | apply below_drew1 | refine below_set ?_ (IsS92.ge HI132.out) | refine below_set ?_ GE133.out) | exact HB.out)⟩⟩
                                  · rw [if_neg c68] at H
                                    have c68b0 : (t163 == t166) = false := beq_eq_false_iff_ne.mpr c68
                                    have c68b1 : (t163 != t166) = true := bne_iff_ne.mpr c68
                                    obtain rfl := Option.some.inj H
                                    have p162 : 0 ≤ (x123_4 : Int) := of_decide_eq_true (by first | (with_reducible assumption) | assumption)
                                    have q162 : x123_4 < (y159.length : Int) := of_decide_eq_true (by first | (with_reducible assumption) | assumption)
                                    obtain ⟨ad162, e162, hx162_0⟩ := Kd.at_int (Kd.R_reads' HO_121.out).2.2 x123_4 p162 q162
                                    cases e162
                                    replace p162 := eq_true p162
                                    replace q162 := eq_true q162
                                    go_wp2_with (first | ((with_reducible refine gate_callee (f := 16) rfl ?_); refine goesL_ (some 129) rfl rfl Try.func16 (by kernel_rfl) rfl #[.pointer (some ⟨g132, 0, none⟩), .int .i64 (rd y159 x123_4)] rfl (by (try simp only [List.map_toArray, List.map_cons, List.map_nil]); first | done | rfl | (simp only [List.length_drop, List.length_take]; rfl)) ?_; (with_reducible refine (ids_Ids_Kind.calls k4 g132 x133000_4 x133001_4 (rd y159 x123_4) t163 t164 t165 w _ ?side1 ?side2 A66.out).mono ?_); (case side1 => repeat (first | (with_reducible first | exact HI132.out | apply IsS92.alloc | apply IsS92.drewN | apply IsS92.drew | apply IsS92.set_0 | apply IsS92.set_1 | refine IsS92.far ?_ NB132_133.out _) | exact HI132.out)); (case side2 => repeat (first | (with_reducible first | exact HB.out | apply below_alloc | apply pw_below_drewN | apply below_drew1 | refine below_set ?_ (IsS92.ge HI132.out) | refine below_set ?_ GE133.out) | exact HB.out)); rintro e w71 ⟨rfl, hi, hb, hk⟩; refine ⟨_, rfl, ?_⟩; have n0_ := Aside0.mk (Kd.R_mono (Kd.R_keep (IsS92.apart (show IsS92 w _ g132 x133000_4 x133001_4 from by repeat (first | (with_reducible first | exact HI132.out | apply IsS92.alloc | apply IsS92.drewN | apply IsS92.drew | apply IsS92.set_0 | apply IsS92.set_1 | refine IsS92.far ?_ NB132_133.out _) | exact HI132.out)) (by (with_reducible repeat (first | apply Kd.R_alloc | apply Kd.R_drewN | apply Kd.R_drew)); exact HO_121.out) (by decide)) hk (fun _ h => h.2)) (fun _ h => h.1)); have n1_ := Aside0.mk (KeepBut.blk hk (g' := gb133) (o := .cells #[.int .i64 x134000_4, .int .i64 x134001_4] 46 (0, 0)) (by (with_reducible repeat (first | refine blk_drewN ?_ _ | refine blk_drew ?_ | refine blk_alloc ?_ _)); exact BK133.out) NB133_132.out (by simp)); have n2_ := Aside0.mk (hb); have n3_ := Aside0.mk (hi); clear HO_121; clear BK133; clear HB; clear HI132; have HO_121 := n0_; have BK133 := n1_; have HB := n2_; have HI132 := n3_; clear n0_ n1_ n2_ n3_; (try clear hb); (try clear hb2); (try clear hk); (try clear hi)) | ((with_reducible refine gate_callee (f := 18) rfl ?_); refine goesL_ (some 132) rfl rfl Try.func18 (by kernel_rfl) rfl #[.pointer (some ⟨gb133, 0, none⟩), .int .i64 (rd y159 x123_4)] rfl (by (try simp only [List.map_toArray, List.map_cons, List.map_nil]); first | done | rfl | (simp only [List.length_drop, List.length_take]; rfl)) ?_; (with_reducible refine (bywashref1_Ids_Kind.calls k4 gb133 x134000_4 x134001_4 (rd y159 x123_4) t166 t167 t168 w _ ?side1 ?side2 A67.out).mono ?_); (case side1 => exact ⟨by (with_reducible repeat (first | refine blk_drewN ?_ _ | refine blk_drew ?_ | refine blk_alloc ?_ _)); exact BK133.out, GE133.out⟩); (case side2 => repeat (first | (with_reducible first | exact HB.out | apply below_alloc | apply pw_below_drewN | apply below_drew1 | refine below_set ?_ (IsS92.ge HI132.out) | refine below_set ?_ GE133.out) | exact HB.out)); rintro e w72 ⟨rfl, hi, hb, hk⟩; refine ⟨_, rfl, ?_⟩; have n0_ := Aside0.mk (Kd.R_mono (Kd.R_keep (Kd.R_types (by (with_reducible repeat (first | apply Kd.R_alloc | apply Kd.R_drewN | apply Kd.R_drew)); exact HO_121.out) (show _ from (by (with_reducible repeat (first | refine blk_drewN ?_ _ | refine blk_drew ?_ | refine blk_alloc ?_ _)); exact BK133.out)) (by decide)) hk (fun _ h => h.2)) (fun _ h => h.1)); have n1_ := Aside0.mk (hi.1); have n2_ := Aside0.mk ((show IsS92 w _ g132 t164 t165 from ⟨KeepBut.blk hk (show IsS92 w _ g132 t164 t165 from by repeat (first | (with_reducible first | exact HI132.out | apply IsS92.alloc | apply IsS92.drewN | apply IsS92.drew | apply IsS92.set_0 | apply IsS92.set_1 | refine IsS92.far ?_ NB132_133.out _) | exact HI132.out)).1 NB132_133.out (by simp), (HI132.out).2⟩)); have n3_ := Aside0.mk (hb); clear HO_121; clear BK133; clear HI132; clear HB; have HO_121 := n0_; have BK133 := n1_; have HI132 := n2_; have HB := n3_; clear n0_ n1_ n2_ n3_; (try clear hb); (try clear hb2); (try clear hk); (try clear hi)))
                                    go_ret
                                    exact ⟨by first | rfl | (simp [errW_none, errW_some] <;> rfl) | (simp [*, errW_none, errW_some] <;> rfl), by repeat (first | (with_reducible first | exact HB.out | apply below_alloc | apply pw_below_drewN | apply below_drew1 | refine below_set ?_ (IsS92.ge HI132.out) | refine below_set ?_ GE133.out) | exact HB.out)⟩
                                · rw [if_neg c65] at H
                                  exact absurd H (by simp)
                              · rw [if_neg c64] at H
                                exact absurd H (by simp)
                            · rw [if_neg c63] at H
                              have c63b0 : decide (x123_4 < (y159.length : Int)) = false := decide_eq_false c63
                              clear c63
                              obtain rfl := Option.some.inj H
                              go_wp2
                              go_ret
                              exact ⟨by first | rfl | (simp [errW_none, errW_some] <;> rfl) | (simp [*, errW_none, errW_some] <;> rfl), by repeat (first | (with_reducible first | exact HB.out | apply below_alloc | apply pw_below_drewN | apply below_drew1 | refine below_set ?_ (IsS92.ge HI132.out) | refine below_set ?_ GE133.out) | exact HB.out)⟩
                      · rw [if_neg c54] at H
                        exact absurd H (by simp)
                    · rw [if_neg c53] at H
                      exact absurd H (by simp)

/-- THE ONE PURE STATEMENT of bywashlaw18_IdsPlays: yours. -/
def bywashlaw18_IdsPlays.Pure : Prop := ∀ (a0 : Int) (a1 : Int) (l2 : List Int), (Lit.int .i64 a0).wf = true → (Lit.int .i64 a1).wf = true → l2.length ≤ maxLen → l2.length * 8 ≤ 140737488351232 → (∀ x ∈ l2, (Lit.int .i64 x).wf = true) → ∃ k, bywashlaw18_IdsPlays.f k a0 a1 l2 = some true
theorem bywashlaw18_IdsPlays.walk (P : bywashlaw18_IdsPlays.Pure) (a0 : Int) (a1 : Int) (a2 : Option Addr) (len2 cap2 : Nat) (z2 : List Int) (w : World) (w0 : (Lit.int .i64 a0).wf = true) (w1 : (Lit.int .i64 a1).wf = true) (w2 : (a2 = none ∧ len2 = 0 ∧ cap2 = 0 ∧ z2 = []) ∨ ∃ x, a2 = some x ∧ len2 ≤ cap2 ∧ cap2 ≤ maxLen ∧ z2.length = cap2 ∧ (∀ i, i < z2.length → w.cell? (x.add i) = some (.int .i64 (z2.getD i 0))) ∧ ∀ n ∈ z2, (Lit.int .i64 n).wf = true) (y2 : len2 * 8 ≤ 140737488351232) :
    Calls Try.prog 4 #[.int .i64 a0, .int .i64 a1, .slice a2 len2 cap2] w fun e w' => e = .returned (.bool true) ∧ Below w.heap.size w w' := by
  obtain ⟨l2, rfl, hr2, hm2, hw2, hc2⟩ := ReadsInt.ofRowC w2
  obtain ⟨k, h⟩ := P a0 a1 l2 w0 w1 hm2 y2 hw2
  refine (bywashlaw18_IdsPlays.calls k a0 a1 _ _ l2 true w (Kd.C_of_reads (d := (0 : Int)) (h1 := fun _ => rfl) hr2) hc2 h).mono ?_
  rintro e w' ⟨rfl, hd⟩
  exact ⟨rfl, hd⟩

end Go.Proofs.Ytndchendimbfnaa.PIdsPlays
