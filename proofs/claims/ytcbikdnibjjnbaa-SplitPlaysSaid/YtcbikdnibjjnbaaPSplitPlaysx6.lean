-- Written by a program of this session (the kit's printer, turned): the functions that the law reaches.
import Derived.Test.YtcbikdnibjjnbaaPSplitPlaysx0
import Derived.Test.YtcbikdnibjjnbaaPSplitPlaysx1
import Derived.Test.YtcbikdnibjjnbaaPSplitPlaysx2
import Derived.Test.YtcbikdnibjjnbaaPSplitPlaysx3
import Derived.Test.YtcbikdnibjjnbaaPSplitPlaysx4
import Derived.Test.YtcbikdnibjjnbaaPSplitPlaysx5
namespace Go.Proofs.Ytcbikdnibjjnbaa.PSplitPlays
open Go.RowKit Go.Proofs.YtcbikdnibjjnbaaW.PrintWords Go.Proofs.YtcbikdnibjjnbaaW.PrintLast Go.Proofs.YtcbikdnibjjnbaaW.PrintMore
attribute [local go_sem] max2_int min2_int max_two min_two max_three min_three max_four min_four   -- for this text's walks alone
set_option linter.unusedVariables false
set_option linter.unusedSimpArgs false

attribute [local go_sem high] eqA28
/-! ### bywashlaw8_SplitPlays: function 3 -/
mutual
def bywashlaw8_SplitPlays.j0 : Nat → Int → List ByteArray → List Int → Bool → Option (Bool)
  | 0, _, _, _, _ => none
  | k + 1, x0, x1, x2, x29 => if x29 = true then ((bywashlaw8_alive.f k).bind fun t189 => (some t189)) else ((split_New.f x0).bind fun bt190 => (if x0 < 64 then (bywashlaw8_SplitPlays.j1 k x0 x1 x2 true bt190.1 bt190.2.1 bt190.2.2) else (bywashlaw8_SplitPlays.j1 k x0 x1 x2 (decide (x0 > 512)) bt190.1 bt190.2.1 bt190.2.2)))
def bywashlaw8_SplitPlays.j1 : Nat → Int → List ByteArray → List Int → Bool → ByteArray → Int → Bool → Option (Bool)
  | 0, _, _, _, _, _, _, _ => none
  | k + 1, x0, x1, x2, x38, x194000, x194001, x194002 => if x38 = true then (none) else (bywashlaw8_SplitPlays.l0 k x2 x1 (x1.length : Int) 0 x194000 x194001 x194002 x0 (⟨#[]⟩ : ByteArray) false)
def bywashlaw8_SplitPlays.l0 : Nat → List Int → List ByteArray → Int → Int → ByteArray → Int → Bool → Int → ByteArray → Bool → Option (Bool)
  | 0, _, _, _, _, _, _, _, _, _, _ => none
  | k + 1, x2, x74, x75, x76, x194000, x194001, x194002, x195000, x195001, x195002 => if x76 < x75 then (if 0 ≤ x76 then (if x76 < (x74.length : Int) then (if ((rdOf ByteArray.empty x74 x76).size : Int) > 900 then (some true) else (if x195002 = true then (bywashlaw8_SplitPlays.j3 k x2 x76 (rdOf ByteArray.empty x74 x76) 0 x74 x75 x76 x194000 x194001 x194002 x195000 x195001 x195002) else (if x195001.size + (rdOf ByteArray.empty x74 x76).size ≤ 9223372036854775807 then (bywashlaw8_SplitPlays.j3 k x2 x76 (rdOf ByteArray.empty x74 x76) ((rdOf ByteArray.empty x74 x76).size : Int) x74 x75 x76 x194000 x194001 x194002 x195000 (x195001 ++ (rdOf ByteArray.empty x74 x76)) x195002) else (none)))) else (none)) else (none)) else (some true)
def bywashlaw8_SplitPlays.j3 : Nat → List Int → Int → ByteArray → Int → List ByteArray → Int → Int → ByteArray → Int → Bool → Int → ByteArray → Bool → Option (Bool)
  | 0, _, _, _, _, _, _, _, _, _, _, _, _, _ => none
  | k + 1, x2, x13, x14, x15, x74, x75, x76, x194000, x194001, x194002, x195000, x195001, x195002 => (split_Splitter_Feed.f x194000 x194001 x194002 x14).bind fun bt196 => (if bt196.1 = x15 then (if x13 < (x2.length : Int) then (if 0 ≤ x13 then (bywashlaw8_SplitPlays.j4 k x2 (mn (mx (rd x2 x13) 0) 9) x74 x75 x76 bt196.2.1 bt196.2.2.1 bt196.2.2.2 x195000 x195001 x195002) else (none)) else (bywashlaw8_SplitPlays.j4 k x2 1 x74 x75 x76 bt196.2.1 bt196.2.2.1 bt196.2.2.2 x195000 x195001 x195002)) else (some false))
def bywashlaw8_SplitPlays.j4 : Nat → List Int → Int → List ByteArray → Int → Int → ByteArray → Int → Bool → Int → ByteArray → Bool → Option (Bool)
  | 0, _, _, _, _, _, _, _, _, _, _, _ => none
  | k + 1, x2, x16, x74, x75, x76, x194000, x194001, x194002, x195000, x195001, x195002 => bywashlaw8_SplitPlays.l1 k x2 x16 x74 x75 x76 x194000 x194001 x194002 x195000 x195001 x195002
def bywashlaw8_SplitPlays.l1 : Nat → List Int → Int → List ByteArray → Int → Int → ByteArray → Int → Bool → Int → ByteArray → Bool → Option (Bool)
  | 0, _, _, _, _, _, _, _, _, _, _, _ => none
  | k + 1, x2, x16, x74, x75, x76, x194000, x194001, x194002, x195000, x195001, x195002 => if x16 > 0 then ((split_Splitter_Next.f k x194000 x194001 x194002).bind fun bt201 => ((bywashref1_Splitter_Next.f k x195000 x195001 x195002).bind fun bt211 => (if (!(bt201.1 == bt211.1) || (!(bt201.2.1 == bt211.2.1) || (!(bt201.2.2.1 == bt211.2.2.1) || (!(bt201.2.2.2.1.toList == bt211.2.2.2.1.toList))))) = true then (bywashlaw8_SplitPlays.j6 k x2 x16 x74 x75 x76 true bt201.2.2.2.2.2.2.1 bt201.2.2.2.2.2.2.2.1 bt201.2.2.2.2.2.2.2.2 bt211.2.2.2.2.2.2.1 bt211.2.2.2.2.2.2.2.1 bt211.2.2.2.2.2.2.2.2) else (if bt201.2.2.2.2.1 = true then (if bt211.2.2.2.2.1 = true then (bywashlaw8_SplitPlays.j6 k x2 x16 x74 x75 x76 (bt201.2.2.2.2.2.1 != bt211.2.2.2.2.2.1) bt201.2.2.2.2.2.2.1 bt201.2.2.2.2.2.2.2.1 bt201.2.2.2.2.2.2.2.2 bt211.2.2.2.2.2.2.1 bt211.2.2.2.2.2.2.2.1 bt211.2.2.2.2.2.2.2.2) else (bywashlaw8_SplitPlays.j6 k x2 x16 x74 x75 x76 true bt201.2.2.2.2.2.2.1 bt201.2.2.2.2.2.2.2.1 bt201.2.2.2.2.2.2.2.2 bt211.2.2.2.2.2.2.1 bt211.2.2.2.2.2.2.2.1 bt211.2.2.2.2.2.2.2.2)) else (if bt211.2.2.2.2.1 = true then (bywashlaw8_SplitPlays.j6 k x2 x16 x74 x75 x76 true bt201.2.2.2.2.2.2.1 bt201.2.2.2.2.2.2.2.1 bt201.2.2.2.2.2.2.2.2 bt211.2.2.2.2.2.2.1 bt211.2.2.2.2.2.2.2.1 bt211.2.2.2.2.2.2.2.2) else (bywashlaw8_SplitPlays.j6 k x2 x16 x74 x75 x76 (bt201.2.2.2.2.2.1 != bt211.2.2.2.2.2.1) bt201.2.2.2.2.2.2.1 bt201.2.2.2.2.2.2.2.1 bt201.2.2.2.2.2.2.2.2 bt211.2.2.2.2.2.2.1 bt211.2.2.2.2.2.2.2.1 bt211.2.2.2.2.2.2.2.2)))))) else ((split_Splitter_Held.f x194000 x194001 x194002).bind fun bt221 => (if bt221.1 = (x195001.size : Int) then ((split_Splitter_Over.f bt221.2.1 bt221.2.2.1 bt221.2.2.2).bind fun bt225 => (if bt225.1 = true then (if x195002 = true then (bywashlaw8_SplitPlays.j7 k x2 x74 x75 x76 false bt225.2.1 bt225.2.2.1 bt225.2.2.2 x195000 x195001 x195002) else (bywashlaw8_SplitPlays.j7 k x2 x74 x75 x76 true bt225.2.1 bt225.2.2.1 bt225.2.2.2 x195000 x195001 x195002)) else (if x195002 = true then (bywashlaw8_SplitPlays.j7 k x2 x74 x75 x76 true bt225.2.1 bt225.2.2.1 bt225.2.2.2 x195000 x195001 x195002) else (bywashlaw8_SplitPlays.j7 k x2 x74 x75 x76 false bt225.2.1 bt225.2.2.1 bt225.2.2.2 x195000 x195001 x195002)))) else (bywashlaw8_SplitPlays.j7 k x2 x74 x75 x76 true bt221.2.1 bt221.2.2.1 bt221.2.2.2 x195000 x195001 x195002)))
def bywashlaw8_SplitPlays.j6 : Nat → List Int → Int → List ByteArray → Int → Int → Bool → ByteArray → Int → Bool → Int → ByteArray → Bool → Option (Bool)
  | 0, _, _, _, _, _, _, _, _, _, _, _, _ => none
  | k + 1, x2, x16, x74, x75, x76, x141, x194000, x194001, x194002, x195000, x195001, x195002 => if x141 = true then (some false) else (bywashlaw8_SplitPlays.l1 k x2 (wrap64 (x16 - 1)) x74 x75 x76 x194000 x194001 x194002 x195000 x195001 x195002)
def bywashlaw8_SplitPlays.j7 : Nat → List Int → List ByteArray → Int → Int → Bool → ByteArray → Int → Bool → Int → ByteArray → Bool → Option (Bool)
  | 0, _, _, _, _, _, _, _, _, _, _, _ => none
  | k + 1, x2, x74, x75, x76, x158, x194000, x194001, x194002, x195000, x195001, x195002 => if x158 = true then (some false) else (bywashlaw8_SplitPlays.l0 k x2 x74 x75 (wrap64 (x76 + 1)) x194000 x194001 x194002 x195000 x195001 x195002)
end
def bywashlaw8_SplitPlays.f (k : Nat) (a0 : Int) (l1 : List ByteArray) (l2 : List Int) : Option (Bool) := if (l1.length : Int) > 60 then (bywashlaw8_SplitPlays.j0 k a0 l1 l2 true) else ((bywashlaw8_alive.f k).bind fun t188 => (bywashlaw8_SplitPlays.j0 k a0 l1 l2 (!t188)))
theorem bywashlaw8_SplitPlays.mono_l : ∀ k, (∀ y0 y1 y2 y3, LeO (bywashlaw8_SplitPlays.j0 k y0 y1 y2 y3) (bywashlaw8_SplitPlays.j0 (k + 1) y0 y1 y2 y3)) ∧ (∀ y0 y1 y2 y3 y4 y5 y6, LeO (bywashlaw8_SplitPlays.j1 k y0 y1 y2 y3 y4 y5 y6) (bywashlaw8_SplitPlays.j1 (k + 1) y0 y1 y2 y3 y4 y5 y6)) ∧ (∀ y0 y1 y2 y3 y4 y5 y6 y7 y8 y9, LeO (bywashlaw8_SplitPlays.l0 k y0 y1 y2 y3 y4 y5 y6 y7 y8 y9) (bywashlaw8_SplitPlays.l0 (k + 1) y0 y1 y2 y3 y4 y5 y6 y7 y8 y9)) ∧ (∀ y0 y1 y2 y3 y4 y5 y6 y7 y8 y9 y10 y11 y12, LeO (bywashlaw8_SplitPlays.j3 k y0 y1 y2 y3 y4 y5 y6 y7 y8 y9 y10 y11 y12) (bywashlaw8_SplitPlays.j3 (k + 1) y0 y1 y2 y3 y4 y5 y6 y7 y8 y9 y10 y11 y12)) ∧ (∀ y0 y1 y2 y3 y4 y5 y6 y7 y8 y9 y10, LeO (bywashlaw8_SplitPlays.j4 k y0 y1 y2 y3 y4 y5 y6 y7 y8 y9 y10) (bywashlaw8_SplitPlays.j4 (k + 1) y0 y1 y2 y3 y4 y5 y6 y7 y8 y9 y10)) ∧ (∀ y0 y1 y2 y3 y4 y5 y6 y7 y8 y9 y10, LeO (bywashlaw8_SplitPlays.l1 k y0 y1 y2 y3 y4 y5 y6 y7 y8 y9 y10) (bywashlaw8_SplitPlays.l1 (k + 1) y0 y1 y2 y3 y4 y5 y6 y7 y8 y9 y10)) ∧ (∀ y0 y1 y2 y3 y4 y5 y6 y7 y8 y9 y10 y11, LeO (bywashlaw8_SplitPlays.j6 k y0 y1 y2 y3 y4 y5 y6 y7 y8 y9 y10 y11) (bywashlaw8_SplitPlays.j6 (k + 1) y0 y1 y2 y3 y4 y5 y6 y7 y8 y9 y10 y11)) ∧ (∀ y0 y1 y2 y3 y4 y5 y6 y7 y8 y9 y10, LeO (bywashlaw8_SplitPlays.j7 k y0 y1 y2 y3 y4 y5 y6 y7 y8 y9 y10) (bywashlaw8_SplitPlays.j7 (k + 1) y0 y1 y2 y3 y4 y5 y6 y7 y8 y9 y10))
  | 0 => ⟨fun _ _ _ _ r h => by simp [bywashlaw8_SplitPlays.j0] at h, fun _ _ _ _ _ _ _ r h => by simp [bywashlaw8_SplitPlays.j1] at h, fun _ _ _ _ _ _ _ _ _ _ r h => by simp [bywashlaw8_SplitPlays.l0] at h, fun _ _ _ _ _ _ _ _ _ _ _ _ _ r h => by simp [bywashlaw8_SplitPlays.j3] at h, fun _ _ _ _ _ _ _ _ _ _ _ r h => by simp [bywashlaw8_SplitPlays.j4] at h, fun _ _ _ _ _ _ _ _ _ _ _ r h => by simp [bywashlaw8_SplitPlays.l1] at h, fun _ _ _ _ _ _ _ _ _ _ _ _ r h => by simp [bywashlaw8_SplitPlays.j6] at h, fun _ _ _ _ _ _ _ _ _ _ _ r h => by simp [bywashlaw8_SplitPlays.j7] at h⟩
  | k + 1 => by
    obtain ⟨ih0, ih1, ih2, ih3, ih4, ih5, ih6, ih7⟩ := bywashlaw8_SplitPlays.mono_l k
    refine ⟨?_, ?_, ?_, ?_, ?_, ?_, ?_, ?_⟩
    · intro y0 y1 y2 y3
      unfold bywashlaw8_SplitPlays.j0
      repeat' first
      | (with_reducible exact ih0 _ _ _ _)
      | (with_reducible exact ih1 _ _ _ _ _ _ _)
      | (with_reducible exact ih2 _ _ _ _ _ _ _ _ _ _)
      | (with_reducible exact ih3 _ _ _ _ _ _ _ _ _ _ _ _ _)
      | (with_reducible exact ih4 _ _ _ _ _ _ _ _ _ _ _)
      | (with_reducible exact ih5 _ _ _ _ _ _ _ _ _ _ _)
      | (with_reducible exact ih6 _ _ _ _ _ _ _ _ _ _ _ _)
      | (with_reducible exact ih7 _ _ _ _ _ _ _ _ _ _ _)
      | (with_reducible exact bywashlaw8_alive.mono _)
      | (with_reducible exact bywashref1_Splitter_Next.mono _ _ _ _)
      | (with_reducible exact split_Splitter_Next.mono _ _ _ _)
      | (with_reducible exact LeO.refl _)
      | (with_reducible exact LeO.none _)
      | (with_reducible refine LeO.ite ?_ ?_)
      | (with_reducible refine LeO.bind ?_ (fun _ => ?_))
      | exact ih0 _ _ _ _
      | exact ih1 _ _ _ _ _ _ _
      | exact ih2 _ _ _ _ _ _ _ _ _ _
      | exact ih3 _ _ _ _ _ _ _ _ _ _ _ _ _
      | exact ih4 _ _ _ _ _ _ _ _ _ _ _
      | exact ih5 _ _ _ _ _ _ _ _ _ _ _
      | exact ih6 _ _ _ _ _ _ _ _ _ _ _ _
      | exact ih7 _ _ _ _ _ _ _ _ _ _ _
      | exact bywashlaw8_alive.mono _
      | exact bywashref1_Splitter_Next.mono _ _ _ _
      | exact split_Splitter_Next.mono _ _ _ _
      | exact LeO.none _
      | refine LeO.ite ?_ ?_
      | refine LeO.bind ?_ (fun _ => ?_)
    · intro y0 y1 y2 y3 y4 y5 y6
      unfold bywashlaw8_SplitPlays.j1
      repeat' first
      | (with_reducible exact ih0 _ _ _ _)
      | (with_reducible exact ih1 _ _ _ _ _ _ _)
      | (with_reducible exact ih2 _ _ _ _ _ _ _ _ _ _)
      | (with_reducible exact ih3 _ _ _ _ _ _ _ _ _ _ _ _ _)
      | (with_reducible exact ih4 _ _ _ _ _ _ _ _ _ _ _)
      | (with_reducible exact ih5 _ _ _ _ _ _ _ _ _ _ _)
      | (with_reducible exact ih6 _ _ _ _ _ _ _ _ _ _ _ _)
      | (with_reducible exact ih7 _ _ _ _ _ _ _ _ _ _ _)
      | (with_reducible exact bywashlaw8_alive.mono _)
      | (with_reducible exact bywashref1_Splitter_Next.mono _ _ _ _)
      | (with_reducible exact split_Splitter_Next.mono _ _ _ _)
      | (with_reducible exact LeO.refl _)
      | (with_reducible exact LeO.none _)
      | (with_reducible refine LeO.ite ?_ ?_)
      | (with_reducible refine LeO.bind ?_ (fun _ => ?_))
      | exact ih0 _ _ _ _
      | exact ih1 _ _ _ _ _ _ _
      | exact ih2 _ _ _ _ _ _ _ _ _ _
      | exact ih3 _ _ _ _ _ _ _ _ _ _ _ _ _
      | exact ih4 _ _ _ _ _ _ _ _ _ _ _
      | exact ih5 _ _ _ _ _ _ _ _ _ _ _
      | exact ih6 _ _ _ _ _ _ _ _ _ _ _ _
      | exact ih7 _ _ _ _ _ _ _ _ _ _ _
      | exact bywashlaw8_alive.mono _
      | exact bywashref1_Splitter_Next.mono _ _ _ _
      | exact split_Splitter_Next.mono _ _ _ _
      | exact LeO.none _
      | refine LeO.ite ?_ ?_
      | refine LeO.bind ?_ (fun _ => ?_)
    · intro y0 y1 y2 y3 y4 y5 y6 y7 y8 y9
      unfold bywashlaw8_SplitPlays.l0
      repeat' first
      | (with_reducible exact ih0 _ _ _ _)
      | (with_reducible exact ih1 _ _ _ _ _ _ _)
      | (with_reducible exact ih2 _ _ _ _ _ _ _ _ _ _)
      | (with_reducible exact ih3 _ _ _ _ _ _ _ _ _ _ _ _ _)
      | (with_reducible exact ih4 _ _ _ _ _ _ _ _ _ _ _)
      | (with_reducible exact ih5 _ _ _ _ _ _ _ _ _ _ _)
      | (with_reducible exact ih6 _ _ _ _ _ _ _ _ _ _ _ _)
      | (with_reducible exact ih7 _ _ _ _ _ _ _ _ _ _ _)
      | (with_reducible exact bywashlaw8_alive.mono _)
      | (with_reducible exact bywashref1_Splitter_Next.mono _ _ _ _)
      | (with_reducible exact split_Splitter_Next.mono _ _ _ _)
      | (with_reducible exact LeO.refl _)
      | (with_reducible exact LeO.none _)
      | (with_reducible refine LeO.ite ?_ ?_)
      | (with_reducible refine LeO.bind ?_ (fun _ => ?_))
      | exact ih0 _ _ _ _
      | exact ih1 _ _ _ _ _ _ _
      | exact ih2 _ _ _ _ _ _ _ _ _ _
      | exact ih3 _ _ _ _ _ _ _ _ _ _ _ _ _
      | exact ih4 _ _ _ _ _ _ _ _ _ _ _
      | exact ih5 _ _ _ _ _ _ _ _ _ _ _
      | exact ih6 _ _ _ _ _ _ _ _ _ _ _ _
      | exact ih7 _ _ _ _ _ _ _ _ _ _ _
      | exact bywashlaw8_alive.mono _
      | exact bywashref1_Splitter_Next.mono _ _ _ _
      | exact split_Splitter_Next.mono _ _ _ _
      | exact LeO.none _
      | refine LeO.ite ?_ ?_
      | refine LeO.bind ?_ (fun _ => ?_)
    · intro y0 y1 y2 y3 y4 y5 y6 y7 y8 y9 y10 y11 y12
      unfold bywashlaw8_SplitPlays.j3
      repeat' first
      | (with_reducible exact ih0 _ _ _ _)
      | (with_reducible exact ih1 _ _ _ _ _ _ _)
      | (with_reducible exact ih2 _ _ _ _ _ _ _ _ _ _)
      | (with_reducible exact ih3 _ _ _ _ _ _ _ _ _ _ _ _ _)
      | (with_reducible exact ih4 _ _ _ _ _ _ _ _ _ _ _)
      | (with_reducible exact ih5 _ _ _ _ _ _ _ _ _ _ _)
      | (with_reducible exact ih6 _ _ _ _ _ _ _ _ _ _ _ _)
      | (with_reducible exact ih7 _ _ _ _ _ _ _ _ _ _ _)
      | (with_reducible exact bywashlaw8_alive.mono _)
      | (with_reducible exact bywashref1_Splitter_Next.mono _ _ _ _)
      | (with_reducible exact split_Splitter_Next.mono _ _ _ _)
      | (with_reducible exact LeO.refl _)
      | (with_reducible exact LeO.none _)
      | (with_reducible refine LeO.ite ?_ ?_)
      | (with_reducible refine LeO.bind ?_ (fun _ => ?_))
      | exact ih0 _ _ _ _
      | exact ih1 _ _ _ _ _ _ _
      | exact ih2 _ _ _ _ _ _ _ _ _ _
      | exact ih3 _ _ _ _ _ _ _ _ _ _ _ _ _
      | exact ih4 _ _ _ _ _ _ _ _ _ _ _
      | exact ih5 _ _ _ _ _ _ _ _ _ _ _
      | exact ih6 _ _ _ _ _ _ _ _ _ _ _ _
      | exact ih7 _ _ _ _ _ _ _ _ _ _ _
      | exact bywashlaw8_alive.mono _
      | exact bywashref1_Splitter_Next.mono _ _ _ _
      | exact split_Splitter_Next.mono _ _ _ _
      | exact LeO.none _
      | refine LeO.ite ?_ ?_
      | refine LeO.bind ?_ (fun _ => ?_)
    · intro y0 y1 y2 y3 y4 y5 y6 y7 y8 y9 y10
      unfold bywashlaw8_SplitPlays.j4
      repeat' first
      | (with_reducible exact ih0 _ _ _ _)
      | (with_reducible exact ih1 _ _ _ _ _ _ _)
      | (with_reducible exact ih2 _ _ _ _ _ _ _ _ _ _)
      | (with_reducible exact ih3 _ _ _ _ _ _ _ _ _ _ _ _ _)
      | (with_reducible exact ih4 _ _ _ _ _ _ _ _ _ _ _)
      | (with_reducible exact ih5 _ _ _ _ _ _ _ _ _ _ _)
      | (with_reducible exact ih6 _ _ _ _ _ _ _ _ _ _ _ _)
      | (with_reducible exact ih7 _ _ _ _ _ _ _ _ _ _ _)
      | (with_reducible exact bywashlaw8_alive.mono _)
      | (with_reducible exact bywashref1_Splitter_Next.mono _ _ _ _)
      | (with_reducible exact split_Splitter_Next.mono _ _ _ _)
      | (with_reducible exact LeO.refl _)
      | (with_reducible exact LeO.none _)
      | (with_reducible refine LeO.ite ?_ ?_)
      | (with_reducible refine LeO.bind ?_ (fun _ => ?_))
      | exact ih0 _ _ _ _
      | exact ih1 _ _ _ _ _ _ _
      | exact ih2 _ _ _ _ _ _ _ _ _ _
      | exact ih3 _ _ _ _ _ _ _ _ _ _ _ _ _
      | exact ih4 _ _ _ _ _ _ _ _ _ _ _
      | exact ih5 _ _ _ _ _ _ _ _ _ _ _
      | exact ih6 _ _ _ _ _ _ _ _ _ _ _ _
      | exact ih7 _ _ _ _ _ _ _ _ _ _ _
      | exact bywashlaw8_alive.mono _
      | exact bywashref1_Splitter_Next.mono _ _ _ _
      | exact split_Splitter_Next.mono _ _ _ _
      | exact LeO.none _
      | refine LeO.ite ?_ ?_
      | refine LeO.bind ?_ (fun _ => ?_)
    · intro y0 y1 y2 y3 y4 y5 y6 y7 y8 y9 y10
      unfold bywashlaw8_SplitPlays.l1
      repeat' first
      | (with_reducible exact ih0 _ _ _ _)
      | (with_reducible exact ih1 _ _ _ _ _ _ _)
      | (with_reducible exact ih2 _ _ _ _ _ _ _ _ _ _)
      | (with_reducible exact ih3 _ _ _ _ _ _ _ _ _ _ _ _ _)
      | (with_reducible exact ih4 _ _ _ _ _ _ _ _ _ _ _)
      | (with_reducible exact ih5 _ _ _ _ _ _ _ _ _ _ _)
      | (with_reducible exact ih6 _ _ _ _ _ _ _ _ _ _ _ _)
      | (with_reducible exact ih7 _ _ _ _ _ _ _ _ _ _ _)
      | (with_reducible exact bywashlaw8_alive.mono _)
      | (with_reducible exact bywashref1_Splitter_Next.mono _ _ _ _)
      | (with_reducible exact split_Splitter_Next.mono _ _ _ _)
      | (with_reducible exact LeO.refl _)
      | (with_reducible exact LeO.none _)
      | (with_reducible refine LeO.ite ?_ ?_)
      | (with_reducible refine LeO.bind ?_ (fun _ => ?_))
      | exact ih0 _ _ _ _
      | exact ih1 _ _ _ _ _ _ _
      | exact ih2 _ _ _ _ _ _ _ _ _ _
      | exact ih3 _ _ _ _ _ _ _ _ _ _ _ _ _
      | exact ih4 _ _ _ _ _ _ _ _ _ _ _
      | exact ih5 _ _ _ _ _ _ _ _ _ _ _
      | exact ih6 _ _ _ _ _ _ _ _ _ _ _ _
      | exact ih7 _ _ _ _ _ _ _ _ _ _ _
      | exact bywashlaw8_alive.mono _
      | exact bywashref1_Splitter_Next.mono _ _ _ _
      | exact split_Splitter_Next.mono _ _ _ _
      | exact LeO.none _
      | refine LeO.ite ?_ ?_
      | refine LeO.bind ?_ (fun _ => ?_)
    · intro y0 y1 y2 y3 y4 y5 y6 y7 y8 y9 y10 y11
      unfold bywashlaw8_SplitPlays.j6
      repeat' first
      | (with_reducible exact ih0 _ _ _ _)
      | (with_reducible exact ih1 _ _ _ _ _ _ _)
      | (with_reducible exact ih2 _ _ _ _ _ _ _ _ _ _)
      | (with_reducible exact ih3 _ _ _ _ _ _ _ _ _ _ _ _ _)
      | (with_reducible exact ih4 _ _ _ _ _ _ _ _ _ _ _)
      | (with_reducible exact ih5 _ _ _ _ _ _ _ _ _ _ _)
      | (with_reducible exact ih6 _ _ _ _ _ _ _ _ _ _ _ _)
      | (with_reducible exact ih7 _ _ _ _ _ _ _ _ _ _ _)
      | (with_reducible exact bywashlaw8_alive.mono _)
      | (with_reducible exact bywashref1_Splitter_Next.mono _ _ _ _)
      | (with_reducible exact split_Splitter_Next.mono _ _ _ _)
      | (with_reducible exact LeO.refl _)
      | (with_reducible exact LeO.none _)
      | (with_reducible refine LeO.ite ?_ ?_)
      | (with_reducible refine LeO.bind ?_ (fun _ => ?_))
      | exact ih0 _ _ _ _
      | exact ih1 _ _ _ _ _ _ _
      | exact ih2 _ _ _ _ _ _ _ _ _ _
      | exact ih3 _ _ _ _ _ _ _ _ _ _ _ _ _
      | exact ih4 _ _ _ _ _ _ _ _ _ _ _
      | exact ih5 _ _ _ _ _ _ _ _ _ _ _
      | exact ih6 _ _ _ _ _ _ _ _ _ _ _ _
      | exact ih7 _ _ _ _ _ _ _ _ _ _ _
      | exact bywashlaw8_alive.mono _
      | exact bywashref1_Splitter_Next.mono _ _ _ _
      | exact split_Splitter_Next.mono _ _ _ _
      | exact LeO.none _
      | refine LeO.ite ?_ ?_
      | refine LeO.bind ?_ (fun _ => ?_)
    · intro y0 y1 y2 y3 y4 y5 y6 y7 y8 y9 y10
      unfold bywashlaw8_SplitPlays.j7
      repeat' first
      | (with_reducible exact ih0 _ _ _ _)
      | (with_reducible exact ih1 _ _ _ _ _ _ _)
      | (with_reducible exact ih2 _ _ _ _ _ _ _ _ _ _)
      | (with_reducible exact ih3 _ _ _ _ _ _ _ _ _ _ _ _ _)
      | (with_reducible exact ih4 _ _ _ _ _ _ _ _ _ _ _)
      | (with_reducible exact ih5 _ _ _ _ _ _ _ _ _ _ _)
      | (with_reducible exact ih6 _ _ _ _ _ _ _ _ _ _ _ _)
      | (with_reducible exact ih7 _ _ _ _ _ _ _ _ _ _ _)
      | (with_reducible exact bywashlaw8_alive.mono _)
      | (with_reducible exact bywashref1_Splitter_Next.mono _ _ _ _)
      | (with_reducible exact split_Splitter_Next.mono _ _ _ _)
      | (with_reducible exact LeO.refl _)
      | (with_reducible exact LeO.none _)
      | (with_reducible refine LeO.ite ?_ ?_)
      | (with_reducible refine LeO.bind ?_ (fun _ => ?_))
      | exact ih0 _ _ _ _
      | exact ih1 _ _ _ _ _ _ _
      | exact ih2 _ _ _ _ _ _ _ _ _ _
      | exact ih3 _ _ _ _ _ _ _ _ _ _ _ _ _
      | exact ih4 _ _ _ _ _ _ _ _ _ _ _
      | exact ih5 _ _ _ _ _ _ _ _ _ _ _
      | exact ih6 _ _ _ _ _ _ _ _ _ _ _ _
      | exact ih7 _ _ _ _ _ _ _ _ _ _ _
      | exact bywashlaw8_alive.mono _
      | exact bywashref1_Splitter_Next.mono _ _ _ _
      | exact split_Splitter_Next.mono _ _ _ _
      | exact LeO.none _
      | refine LeO.ite ?_ ?_
      | refine LeO.bind ?_ (fun _ => ?_)
theorem bywashlaw8_SplitPlays.mono : ∀ a0 a1 a2 k, LeO (bywashlaw8_SplitPlays.f k a0 a1 a2) (bywashlaw8_SplitPlays.f (k + 1) a0 a1 a2) := by
  intro a0 a1 a2 k
  obtain ⟨ih0, ih1, ih2, ih3, ih4, ih5, ih6, ih7⟩ := bywashlaw8_SplitPlays.mono_l k
  unfold bywashlaw8_SplitPlays.f
  repeat' first
      | (with_reducible exact ih0 _ _ _ _)
      | (with_reducible exact ih1 _ _ _ _ _ _ _)
      | (with_reducible exact ih2 _ _ _ _ _ _ _ _ _ _)
      | (with_reducible exact ih3 _ _ _ _ _ _ _ _ _ _ _ _ _)
      | (with_reducible exact ih4 _ _ _ _ _ _ _ _ _ _ _)
      | (with_reducible exact ih5 _ _ _ _ _ _ _ _ _ _ _)
      | (with_reducible exact ih6 _ _ _ _ _ _ _ _ _ _ _ _)
      | (with_reducible exact ih7 _ _ _ _ _ _ _ _ _ _ _)
      | (with_reducible exact bywashlaw8_alive.mono _)
      | (with_reducible exact bywashref1_Splitter_Next.mono _ _ _ _)
      | (with_reducible exact split_Splitter_Next.mono _ _ _ _)
      | (with_reducible exact LeO.refl _)
      | (with_reducible exact LeO.none _)
      | (with_reducible refine LeO.ite ?_ ?_)
      | (with_reducible refine LeO.bind ?_ (fun _ => ?_))
      | exact ih0 _ _ _ _
      | exact ih1 _ _ _ _ _ _ _
      | exact ih2 _ _ _ _ _ _ _ _ _ _
      | exact ih3 _ _ _ _ _ _ _ _ _ _ _ _ _
      | exact ih4 _ _ _ _ _ _ _ _ _ _ _
      | exact ih5 _ _ _ _ _ _ _ _ _ _ _
      | exact ih6 _ _ _ _ _ _ _ _ _ _ _ _
      | exact ih7 _ _ _ _ _ _ _ _ _ _ _
      | exact bywashlaw8_alive.mono _
      | exact bywashref1_Splitter_Next.mono _ _ _ _
      | exact split_Splitter_Next.mono _ _ _ _
      | exact LeO.none _
      | refine LeO.ite ?_ ?_
      | refine LeO.bind ?_ (fun _ => ?_)
def bywashlaw8_SplitPlays.T31 : Bool × List (List Nat × List Nat) := (true, [([], []), ([0], [0]), ([], []), ([2], [2]), ([3], [3]), ([4], [4]), ([5], [5]), ([1, 6], [1, 6]), ([7, 1], [7]), ([8], [8]), ([9, 8, 8], [8, 9]), ([8], [8]), ([11, 8], [8, 11]), ([12, 8], [8, 12]), ([13, 8], [8, 13]), ([10, 14, 8], [8, 10, 14]), ([8, 15], [8, 15])])
def bywashlaw8_SplitPlays.B31 : List Nat := [0, 1, 0, 4, 12, 28, 60, 127, 255, 511, 1023, 511, 2559, 6655, 14847, 32767, 65535]
theorem bywashlaw8_SplitPlays.tab31 : rtab .any (opsOf Try.f3 31) = bywashlaw8_SplitPlays.T31 := by kernel_rfl
theorem bywashlaw8_SplitPlays.bits31 : waitsOk bywashlaw8_SplitPlays.T31.2 bywashlaw8_SplitPlays.B31 = true := by kernel_rfl
set_option maxHeartbeats 8000000 in
set_option maxRecDepth 100000 in
theorem bywashlaw8_SplitPlays.calls (k : Nat) (a0 : Int) (A1 : Option Addr) (c1 : Nat) (l1 : List ByteArray) (A2 : Option Addr) (c2 : Nat) (l2 : List Int) (r : Bool) (w : World) (hr1 : Kd.C Kd.string w A1 l1.length l1) (hc1 : l1.length ≤ c1) (hr2 : Kd.C (Kd.int .i64) w A2 l2.length l2) (hc2 : l2.length ≤ c2) (h : bywashlaw8_SplitPlays.f k a0 l1 l2 = some r) :
    Calls Try.prog 3 #[.int .i64 a0, .slice A1 l1.length c1, .slice A2 l2.length c2] w fun e w' => e = .returned (.bool r) ∧ Below w.heap.size w w' := by
  have hu28 := Try.underlying28
  have hu36 := Try.underlying36
  have HR1 := Aside0.mk hr1
  have HC1 := Aside0.mk hc1
  clear hr1 hc1
  have HR2 := Aside0.mk hr2
  have HC2 := Aside0.mk hc2
  clear hr2 hc2
  have HB := Aside0.mk (Below.refl w.heap.size w)
  have H : (if (l1.length : Int) > 60 then (bywashlaw8_SplitPlays.j0 k a0 l1 l2 true) else ((bywashlaw8_alive.f k).bind fun t188 => (bywashlaw8_SplitPlays.j0 k a0 l1 l2 (!t188)))) = some r := h
  clear h
  have HC4 := Aside0.mk H
  clear H
  go_enter Try.func3, Try.ntmps3
  go_upto_region 1 with (fail)
  go_cut [29] (fun v29 wc => ∃ (kq : Nat) (x29_3 : Bool), v29 = .bool x29_3 ∧ Aside0 (bywashlaw8_SplitPlays.j0 kq a0 l1 l2 x29_3 = some r) ∧ Aside0 (kq ≤ k) ∧ Aside0 (Below w.heap.size w wc))
  case first =>
    have H := HC4.out
    clear HC4
    by_cases c5 : (l1.length : Int) > 60
    · rw [if_pos c5] at H
      have c5b0 : decide (60 < (l1.length : Int)) = true := decide_eq_true c5
      have c5b1 : decide (60 < l1.length) = true := decide_eq_true (by omega)
      clear c5
      (first | rw [c5b0] | (simp only [i64_w, i32_w]; rw [c5b0]) | skip)
      have H' := Aside0.mk H
      clear H
      go_wp2
      go_meet
      case rel => exact ⟨_, (true), (by first | rfl | (simp; done) | (simp [*]; done)), H', ⟨by first | omega | exact Nat.le_refl _⟩, ⟨by repeat (first | (with_reducible first | exact HB.out | apply below_alloc | apply pw_below_drewN | apply below_drew1) | exact HB.out)⟩⟩
    · rw [if_neg c5] at H
      have c5b0 : decide (60 < (l1.length : Int)) = false := decide_eq_false c5
      have c5b1 : decide (60 < l1.length) = false := decide_eq_false (by omega)
      clear c5
      (first | rw [c5b0] | (simp only [i64_w, i32_w]; rw [c5b0]) | skip)
      replace H := Option.bind_eq_some_iff.mp H
      obtain ⟨t188, A60, H⟩ := H
      replace H : (bywashlaw8_SplitPlays.j0 k a0 l1 l2 (!t188)) = some r := H
      have A6 := Aside0.mk A60
      clear A60
      have H' := Aside0.mk H
      clear H
      go_wp2_with (first | (go_at_call 9; (with_reducible refine (bywashlaw8_alive.calls k  t188 _ A6.out).mono ?_); rintro e w7 ⟨rfl, hb⟩; have n0_ := Aside0.mk (below_step (by repeat (first | (with_reducible first | exact HB.out | apply below_alloc | apply pw_below_drewN | apply below_drew1) | exact HB.out)) hb); clear HB; have HB := n0_; clear n0_; (try clear hb); (try clear hb2); (try clear hk); (try clear hi)))
      go_meet
      case rel => exact ⟨_, (!t188), (by first | rfl | (simp; done) | (simp [*]; done)), H', ⟨by first | omega | exact Nat.le_refl _⟩, ⟨by repeat (first | (with_reducible first | exact HB.out | apply below_alloc | apply pw_below_drewN | apply below_drew1) | exact HB.out)⟩⟩
  case rest =>
    clear HC4
    try clear c1
    try clear c2
    try clear p2
    try clear c3
    try clear c5
    try clear c5b0
    try clear c5b1
    obtain ⟨kq, x29_3, rfl, HA, HJ3, HB⟩ := hcut
    cases kq with
    | zero => exact absurd HA.out (by simp [bywashlaw8_SplitPlays.j0])
    | succ kj3 =>
      have H := HA.out
      clear HA
      simp only [bywashlaw8_SplitPlays.j0] at H
      by_cases c8 : x29_3 = true
      · subst c8
        have H1 : ((bywashlaw8_alive.f kj3).bind fun t189 => (some t189)) = some r := by rw [if_pos rfl] at H; exact H
        clear H
        have H := H1
        clear H1
        replace H := Option.bind_eq_some_iff.mp H
        obtain ⟨t189, A90, H⟩ := H
        replace H : (some t189) = some r := H
        have A9 := Aside0.mk A90
        clear A90
        obtain rfl := Option.some.inj H
        go_wp2_with (first | ((with_reducible refine gate_callee (f := 9) rfl ?_); refine goesL_ (some 30) rfl rfl Try.func9 (by kernel_rfl) rfl #[] rfl (by (try simp only [List.map_toArray, List.map_cons, List.map_nil]); first | done | rfl | (simp only [List.length_drop, List.length_take]; rfl)) ?_; (with_reducible refine (bywashlaw8_alive.calls kj3  t189 _ A9.out).mono ?_); rintro e w10 ⟨rfl, hb⟩; refine ⟨_, rfl, ?_⟩; have n0_ := Aside0.mk (below_step (by repeat (first | (with_reducible first | exact HB.out | apply below_alloc | apply pw_below_drewN | apply below_drew1) | exact HB.out)) hb); clear HB; have HB := n0_; clear n0_; (try clear hb); (try clear hb2); (try clear hk); (try clear hi)))
        go_ret
        exact ⟨by first | rfl | (simp [errW_none, errW_some] <;> rfl) | (simp [*, errW_none, errW_some] <;> rfl), by repeat (first | (with_reducible first | exact HB.out | apply below_alloc | apply pw_below_drewN | apply below_drew1) | exact HB.out)⟩
      · replace c8 := Bool.eq_false_iff.mpr c8
        subst c8
        have H1 : ((split_New.f a0).bind fun bt190 => (if a0 < 64 then (bywashlaw8_SplitPlays.j1 kj3 a0 l1 l2 true bt190.1 bt190.2.1 bt190.2.2) else (bywashlaw8_SplitPlays.j1 kj3 a0 l1 l2 (decide (a0 > 512)) bt190.1 bt190.2.1 bt190.2.2))) = some r := by rw [if_neg (show ¬ (false = true) by decide)] at H; exact H
        clear H
        have H := H1
        clear H1
        replace H := Option.bind_eq_some_iff.mp H
        obtain ⟨⟨t190, t191, t192⟩, A110, H⟩ := H
        replace H : (if a0 < 64 then (bywashlaw8_SplitPlays.j1 kj3 a0 l1 l2 true t190 t191 t192) else (bywashlaw8_SplitPlays.j1 kj3 a0 l1 l2 (decide (a0 > 512)) t190 t191 t192)) = some r := H
        have A11 := Aside0.mk A110
        clear A110
        have HC12 := Aside0.mk H
        clear H
        go_upto_region 4 with (first | ((with_reducible refine gate_callee (f := 10) rfl ?_); refine goesL_ (some 32) rfl rfl Try.func10 (by kernel_rfl) rfl #[.int .i64 a0] rfl (by (try simp only [List.map_toArray, List.map_cons, List.map_nil]); first | done | rfl | (simp only [List.length_drop, List.length_take]; rfl)) ?_; (with_reducible refine (split_New.calls a0 t190 t191 t192 w _ ?side1 A11.out).mono ?_); (case side1 => repeat (first | (with_reducible first | exact HB.out | apply below_alloc | apply pw_below_drewN | apply below_drew1) | exact HB.out)); rintro e w13 ⟨g193, rfl, hi, hb, hb2⟩; refine ⟨_, rfl, ?_⟩; have n0_ := Aside0.mk (hb); have n1_ := Aside0.mk (hi); clear HB; have HB := n0_; have HI193 := n1_; clear n0_ n1_; (try clear hb); (try clear hb2); (try clear hk); (try clear hi)))
        (try simp only [Act.put, List.setIfInBounds_toArray, List.set_cons_zero, List.set_cons_succ])
        go_cut [38] (fun v38 wc => ∃ (kq : Nat) (x38_11 : Bool), v38 = .bool x38_11 ∧ Aside0 (bywashlaw8_SplitPlays.j1 kq a0 l1 l2 x38_11 t190 t191 t192 = some r) ∧ Aside0 (kq ≤ kj3) ∧ Aside0 (IsS49 w wc g193 t190 t191 t192) ∧ Aside0 (Below w.heap.size w wc))
        case first =>
          have H := HC12.out
          clear HC12
          by_cases c14 : a0 < 64
          · rw [if_pos c14] at H
            have c14b0 : decide (a0 < 64) = true := decide_eq_true c14
            clear c14
            (first | rw [c14b0] | (simp only [i64_w, i32_w]; rw [c14b0]) | skip)
            have H' := Aside0.mk H
            clear H
            go_wp2
            go_meet
            case rel => exact ⟨_, (true), (by first | rfl | (simp; done) | (simp [*]; done)), H', ⟨by have := HJ3.out; first | omega | exact Nat.le_refl _⟩, ⟨by repeat (first | (with_reducible first | exact HI193.out | apply IsS49.alloc | apply IsS49.drewN | apply IsS49.drew | apply IsS49.set_0 | apply IsS49.set_1 | apply IsS49.set_2) | exact HI193.out)⟩, ⟨by repeat (first | (with_reducible first | exact HB.out | apply below_alloc | apply pw_below_drewN | apply below_drew1 | refine below_set ?_ (IsS49.ge HI193.out)) | exact HB.out)⟩⟩
          · rw [if_neg c14] at H
            have c14b0 : decide (a0 < 64) = false := decide_eq_false c14
            clear c14
            (first | rw [c14b0] | (simp only [i64_w, i32_w]; rw [c14b0]) | skip)
            have H' := Aside0.mk H
            clear H
            go_wp2
            go_meet
            case rel => exact ⟨_, (decide (a0 > 512)), (by first | rfl | (simp; done) | (simp [*]; done)), H', ⟨by have := HJ3.out; first | omega | exact Nat.le_refl _⟩, ⟨by repeat (first | (with_reducible first | exact HI193.out | apply IsS49.alloc | apply IsS49.drewN | apply IsS49.drew | apply IsS49.set_0 | apply IsS49.set_1 | apply IsS49.set_2) | exact HI193.out)⟩, ⟨by repeat (first | (with_reducible first | exact HB.out | apply below_alloc | apply pw_below_drewN | apply below_drew1 | refine below_set ?_ (IsS49.ge HI193.out)) | exact HB.out)⟩⟩
        case rest =>
          clear HC12
          try clear c1
          try clear c2
          try clear p2
          try clear c3
          try clear c5
          try clear c5b0
          try clear c5b1
          try clear c8
          try clear c9
          try clear c10
          try clear c14
          try clear c14b0
          try clear p2
          obtain ⟨kq, x38_11, rfl, HA, HJ11, HI193, HB⟩ := hcut
          cases kq with
          | zero => exact absurd HA.out (by simp [bywashlaw8_SplitPlays.j1])
          | succ kj11 =>
            have H := HA.out
            clear HA
            simp only [bywashlaw8_SplitPlays.j1] at H
            by_cases c15 : x38_11 = true
            · subst c15
              have H1 : (none) = some r := by rw [if_pos rfl] at H; exact H
              clear H
              have H := H1
              clear H1
              exact absurd H (by simp)
            · replace c15 := Bool.eq_false_iff.mpr c15
              subst c15
              have H1 : (bywashlaw8_SplitPlays.l0 kj11 l2 l1 (l1.length : Int) 0 t190 t191 t192 a0 (⟨#[]⟩ : ByteArray) false) = some r := by rw [if_neg (show ¬ (false = true) by decide)] at H; exact H
              clear H
              have H := H1
              clear H1
              have H' := Aside0.mk H
              clear H
              go_wp2_with (first | ((with_reducible refine gate_dst (N := 73) rfl ?_); refine box_event ?hg (N := 73) ?hd (cs := #[.int .i64 a0, .string (⟨#[]⟩ : ByteArray), .bool false]) (t := 36) ?hr ?_; (case hd => rfl); (case hg => rfl); (case hr => first | (go_simp; done) | (go_simp; rfl)); intro gb194 hg w16 hbox hb; have n0_ := Aside0.mk (IsS49.below (by repeat (first | (with_reducible first | exact HI193.out | apply IsS49.alloc | apply IsS49.drewN | apply IsS49.drew | apply IsS49.set_0 | apply IsS49.set_1 | apply IsS49.set_2) | exact HI193.out)) hb); have n1_ := Aside0.mk (below_step (by repeat (first | (with_reducible first | exact HB.out | apply below_alloc | apply pw_below_drewN | apply below_drew1 | refine below_set ?_ (IsS49.ge HI193.out)) | exact HB.out)) hb); have n2_ := Aside0.mk (hbox); have n3_ := Aside0.mk ((by rw [hg]; exact (below_size (by repeat (first | (with_reducible first | exact HB.out | apply below_alloc | apply pw_below_drewN | apply below_drew1 | refine below_set ?_ (IsS49.ge HI193.out)) | exact HB.out))) : w.heap.size ≤ gb194)); have n4_ := Aside0.mk ((by rw [hg]; exact (below_size (by repeat (first | (with_reducible first | exact HB.out | apply below_alloc | apply pw_below_drewN | apply below_drew1 | refine below_set ?_ (IsS49.ge HI193.out)) | exact HB.out))) : w.heap.size ≤ gb194)); have n5_ := Aside0.mk ((by rw [hg]; exact Nat.ne_of_lt (IsS49.lt (show IsS49 w _ g193 t190 t191 t192 from by repeat (first | (with_reducible first | exact HI193.out | apply IsS49.alloc | apply IsS49.drewN | apply IsS49.drew | apply IsS49.set_0 | apply IsS49.set_1 | apply IsS49.set_2) | exact HI193.out))) : g193 ≠ gb194)); have n6_ := Aside0.mk ((by rw [hg]; exact Nat.ne_of_gt (IsS49.lt (show IsS49 w _ g193 t190 t191 t192 from by repeat (first | (with_reducible first | exact HI193.out | apply IsS49.alloc | apply IsS49.drewN | apply IsS49.drew | apply IsS49.set_0 | apply IsS49.set_1 | apply IsS49.set_2) | exact HI193.out))) : gb194 ≠ g193)); clear HI193; clear HB; have HI193 := n0_; have HB := n1_; have BK194 := n2_; have GW194 := n3_; have GE194 := n4_; have NB193_194 := n5_; have NB194_193 := n6_; clear n0_ n1_ n2_ n3_ n4_ n5_ n6_; clear hb hbox hg))
              go_loopg [76] kj11 (fun kq v76 w' => ∃ (x76_3 : Int) (x194000_3 : ByteArray) (x194001_3 : Int) (x194002_3 : Bool) (x195000_3 : Int) (x195001_3 : ByteArray) (x195002_3 : Bool), v76 = .int .i64 x76_3 ∧ Aside0 (bywashlaw8_SplitPlays.l0 kq l2 l1 (l1.length : Int) x76_3 x194000_3 x194001_3 x194002_3 x195000_3 x195001_3 x195002_3 = some r) ∧ Aside0 (kq ≤ kj11) ∧ Aside0 (w'.heap[gb194]? = some (.cells #[.int .i64 x195000_3, .string x195001_3, .bool x195002_3] 36 (0, 0))) ∧ Aside0 (IsS49 w w' g193 x194000_3 x194001_3 x194002_3) ∧ Aside0 (Below w.heap.size w w'))
              case atStart => exact ⟨(0), (t190), (t191), (t192), (a0), ((⟨#[]⟩ : ByteArray)), (false), (by first | rfl | (simp; done) | (simp [*]; done)), H', ⟨Nat.le_refl _⟩, ⟨by (with_reducible repeat (first | refine blk_drewN ?_ _ | refine blk_drew ?_ | refine blk_alloc ?_ _)); exact BK194.out⟩, ⟨by repeat (first | (with_reducible first | exact HI193.out | apply IsS49.alloc | apply IsS49.drewN | apply IsS49.drew | apply IsS49.set_0 | apply IsS49.set_1 | apply IsS49.set_2 | refine IsS49.far ?_ NB193_194.out _ | apply IsS49.far (hne := NB193_194.out)) | exact HI193.out)⟩, ⟨by repeat (first | (with_reducible first | exact HB.out | apply below_alloc | apply pw_below_drewN | apply below_drew1 | refine below_set ?_ (IsS49.ge HI193.out) | refine below_set ?_ GE194.out) | exact HB.out)⟩⟩
              case round =>
                clear H'
                try clear c1
                try clear c2
                try clear p2
                try clear c3
                try clear c5
                try clear c5b0
                try clear c5b1
                try clear c8
                try clear c9
                try clear c10
                try clear c14
                try clear c14b0
                try clear c15
                try clear p2
                obtain ⟨x76_3, x194000_3, x194001_3, x194002_3, x195000_3, x195001_3, x195002_3, rfl, HA, HK3, BK194, HI193, HB⟩ := hrel
                cases gk with
                | zero => exact absurd HA.out (by simp [bywashlaw8_SplitPlays.l0])
                | succ k3 =>
                  have H := HA.out
                  clear HA
                  simp only [bywashlaw8_SplitPlays.l0] at H
                  by_cases c17 : x76_3 < (l1.length : Int)
                  · rw [if_pos c17] at H
                    have c17b0 : decide (x76_3 < (l1.length : Int)) = true := decide_eq_true c17
                    clear c17
                    by_cases c18 : 0 ≤ x76_3
                    · rw [if_pos c18] at H
                      have c18b0 : decide (0 ≤ x76_3) = true := decide_eq_true c18
                      clear c18
                      by_cases c19 : x76_3 < (l1.length : Int)
                      · rw [if_pos c19] at H
                        have c19b0 : decide (x76_3 < (l1.length : Int)) = true := decide_eq_true c19
                        clear c19
                        by_cases c20 : ((rdOf ByteArray.empty l1 x76_3).size : Int) > 900
                        · rw [if_pos c20] at H
                          have c20b0 : decide (900 < ((rdOf ByteArray.empty l1 x76_3).size : Int)) = true := decide_eq_true c20
                          have c20b1 : decide (900 < (rdOf ByteArray.empty l1 x76_3).size) = true := decide_eq_true (by omega)
                          clear c20
                          obtain rfl := Option.some.inj H
                          have p195 : 0 ≤ (x76_3 : Int) := of_decide_eq_true (by first | (with_reducible assumption) | assumption)
                          have q195 : x76_3 < (l1.length : Int) := of_decide_eq_true (by first | (with_reducible assumption) | assumption)
                          obtain ⟨ad195, e195, hx195_0⟩ := Kd.at_string HR1.out x76_3 p195 q195
                          cases e195
                          replace hx195_0 := (HB.out.cell (World.block_lt_of_cell? w _ hx195_0)).trans hx195_0
                          replace p195 := eq_true p195
                          replace q195 := eq_true q195
                          go_wp2
                          go_ret
                          exact ⟨by first | rfl | (simp [errW_none, errW_some] <;> rfl) | (simp [*, errW_none, errW_some] <;> rfl), by repeat (first | (with_reducible first | exact HB.out | apply below_alloc | apply pw_below_drewN | apply below_drew1 | refine below_set ?_ (IsS49.ge HI193.out) | refine below_set ?_ GE194.out) | exact HB.out)⟩
                        · rw [if_neg c20] at H
                          have c20b0 : decide (900 < ((rdOf ByteArray.empty l1 x76_3).size : Int)) = false := decide_eq_false c20
                          have c20b1 : decide (900 < (rdOf ByteArray.empty l1 x76_3).size) = false := decide_eq_false (by omega)
                          clear c20
                          have HC21 := Aside0.mk H
                          clear H
                          have p195 : 0 ≤ (x76_3 : Int) := of_decide_eq_true (by first | (with_reducible assumption) | assumption)
                          have q195 : x76_3 < (l1.length : Int) := of_decide_eq_true (by first | (with_reducible assumption) | assumption)
                          obtain ⟨ad195, e195, hx195_0⟩ := Kd.at_string HR1.out x76_3 p195 q195
                          cases e195
                          replace hx195_0 := (HB.out.cell (World.block_lt_of_cell? w _ hx195_0)).trans hx195_0
                          replace p195 := eq_true p195
                          replace q195 := eq_true q195
                          have hnb22 := NB194_193.out
                          have hnc22 := NB193_194.out
                          have hcz23_0 : wr.cell? ⟨gb194, 0, none⟩ = some (.int .i64 x195000_3) := (blk_cell BK194.out 0).trans rfl
                          have hcz23_1 : wr.cell? ⟨gb194, 1, none⟩ = some (.string x195001_3) := (blk_cell BK194.out 1).trans rfl
                          have hcz23_2 : wr.cell? ⟨gb194, 2, none⟩ = some (.bool x195002_3) := (blk_cell BK194.out 2).trans rfl
                          have hfz23_0 := blk_frozen BK194.out 0
                          have hfz23_1 := blk_frozen BK194.out 1
                          have hfz23_2 := blk_frozen BK194.out 2
                          go_upto_if 89 with (fail)
                          go_cut [15] (fun v15 wc => ∃ (kq : Nat) (x15_20 : Int) (x195001_20 : ByteArray), v15 = .int .i64 x15_20 ∧ Aside0 (bywashlaw8_SplitPlays.j3 kq l2 x76_3 (rdOf ByteArray.empty l1 x76_3) x15_20 l1 (l1.length : Int) x76_3 x194000_3 x194001_3 x194002_3 x195000_3 x195001_20 x195002_3 = some r) ∧ Aside0 (kq ≤ k3) ∧ Aside0 (wc.heap[gb194]? = some (.cells #[.int .i64 x195000_3, .string x195001_20, .bool x195002_3] 36 (0, 0))) ∧ Aside0 (IsS49 w wc g193 x194000_3 x194001_3 x194002_3) ∧ Aside0 (Below w.heap.size w wc))
                          case first =>
                            have H := HC21.out
                            clear HC21
                            by_cases c24 : x195002_3 = true
                            · subst c24
                              have H1 : (bywashlaw8_SplitPlays.j3 k3 l2 x76_3 (rdOf ByteArray.empty l1 x76_3) 0 l1 (l1.length : Int) x76_3 x194000_3 x194001_3 x194002_3 x195000_3 x195001_3 true) = some r := by rw [if_pos rfl] at H; exact H
                              clear H
                              have H := H1
                              clear H1
                              have H' := Aside0.mk H
                              clear H
                              go_wp2
                              go_meet
                              case rel => exact ⟨_, (0), (x195001_3), (by first | rfl | (simp; done) | (simp [*]; done)), H', ⟨by have := HJ3.out; have := HJ11.out; have := HK3.out; first | omega | exact Nat.le_refl _⟩, ⟨by (with_reducible repeat (first | refine blk_drewN ?_ _ | refine blk_drew ?_ | refine blk_alloc ?_ _)); exact BK194.out⟩, ⟨by repeat (first | (with_reducible first | exact HI193.out | apply IsS49.alloc | apply IsS49.drewN | apply IsS49.drew | apply IsS49.set_0 | apply IsS49.set_1 | apply IsS49.set_2 | refine IsS49.far ?_ NB193_194.out _ | apply IsS49.far (hne := NB193_194.out)) | exact HI193.out)⟩, ⟨by repeat (first | (with_reducible first | exact HB.out | apply below_alloc | apply pw_below_drewN | apply below_drew1 | refine below_set ?_ (IsS49.ge HI193.out) | refine below_set ?_ GE194.out) | exact HB.out)⟩⟩
                            · replace c24 := Bool.eq_false_iff.mpr c24
                              subst c24
                              have H1 : (if x195001_3.size + (rdOf ByteArray.empty l1 x76_3).size ≤ 9223372036854775807 then (bywashlaw8_SplitPlays.j3 k3 l2 x76_3 (rdOf ByteArray.empty l1 x76_3) ((rdOf ByteArray.empty l1 x76_3).size : Int) l1 (l1.length : Int) x76_3 x194000_3 x194001_3 x194002_3 x195000_3 (x195001_3 ++ (rdOf ByteArray.empty l1 x76_3)) false) else (none)) = some r := by rw [if_neg (show ¬ (false = true) by decide)] at H; exact H
                              clear H
                              have H := H1
                              clear H1
                              by_cases c25 : x195001_3.size + (rdOf ByteArray.empty l1 x76_3).size ≤ 9223372036854775807
                              · rw [if_pos c25] at H
                                have c25b0 := eq_true c25
                                have c25b1 : decide (x195001_3.size + (rdOf ByteArray.empty l1 x76_3).size ≤ 9223372036854775807) = true := decide_eq_true c25
                                try have c25b2 : (9223372036854775807 < x195001_3.size + (rdOf ByteArray.empty l1 x76_3).size) = False := eq_false (Nat.not_lt.2 c25)
                                have H' := Aside0.mk H
                                clear H
                                have hnb26 := NB194_193.out
                                have hnc26 := NB193_194.out
                                have hcz27_0 : wr.cell? ⟨gb194, 0, none⟩ = some (.int .i64 x195000_3) := (blk_cell BK194.out 0).trans rfl
                                have hcz27_1 : wr.cell? ⟨gb194, 1, none⟩ = some (.string x195001_3) := (blk_cell BK194.out 1).trans rfl
                                have hcz27_2 : wr.cell? ⟨gb194, 2, none⟩ = some (.bool false) := (blk_cell BK194.out 2).trans rfl
                                have hfz27_0 := blk_frozen BK194.out 0
                                have hfz27_1 := blk_frozen BK194.out 1
                                have hfz27_2 := blk_frozen BK194.out 2
                                go_wp2
                                go_meet
                                case rel => exact ⟨_, (((rdOf ByteArray.empty l1 x76_3).size : Int)), (x195001_3 ++ (rdOf ByteArray.empty l1 x76_3)), (by first | rfl | (simp; done) | (simp [*]; done)), H', ⟨by have := HJ3.out; have := HJ11.out; have := HK3.out; first | omega | exact Nat.le_refl _⟩, ⟨by (with_reducible repeat (first | refine blk_drewN ?_ _ | refine blk_drew ?_ | refine blk_alloc ?_ _)); refine blk_put (cs := #[.int .i64 x195000_3, .string x195001_3, .bool false]) ?_ 1 _ rfl; (with_reducible repeat (first | refine blk_drewN ?_ _ | refine blk_drew ?_ | refine blk_alloc ?_ _)); exact BK194.out⟩, ⟨by repeat (first | (with_reducible first | exact HI193.out | apply IsS49.alloc | apply IsS49.drewN | apply IsS49.drew | apply IsS49.set_0 | apply IsS49.set_1 | apply IsS49.set_2 | refine IsS49.far ?_ NB193_194.out _ | apply IsS49.far (hne := NB193_194.out)) | exact HI193.out)⟩, ⟨by repeat (first | (with_reducible first | exact HB.out | apply below_alloc | apply pw_below_drewN | apply below_drew1 | refine below_set ?_ (IsS49.ge HI193.out) | refine below_set ?_ GE194.out) | exact HB.out)⟩⟩
                              · rw [if_neg c25] at H
                                exact absurd H (by simp)
                          case rest =>
                            clear HC21
                            try clear c1
                            try clear p1
                            try clear q1
                            try clear hx1
                            try clear c2
                            try clear p2
                            try clear c3
                            try clear c5
                            try clear c5b0
                            try clear c5b1
                            try clear c8
                            try clear c9
                            try clear c10
                            try clear c14
                            try clear c14b0
                            try clear c15
                            try clear c17
                            try clear c17b0
                            try clear c18
                            try clear c18b0
                            try clear c19
                            try clear c19b0
                            try clear p19
                            try clear q19
                            try clear hx19
                            try clear c20
                            try clear c20b0
                            try clear c20b1
                            try clear c22
                            try clear c24
                            try clear c25
                            try clear c25b0
                            try clear c25b1
                            try clear c25b2
                            try clear c26
                            try clear hcz23_0
                            try clear hcz23_1
                            try clear hcz23_2
                            try clear hcz27_0
                            try clear hcz27_1
                            try clear hcz27_2
                            try clear hfz23_0
                            try clear hfz23_1
                            try clear hfz23_2
                            try clear hfz27_0
                            try clear hfz27_1
                            try clear hfz27_2
                            try clear hx195_0
                            try clear p195
                            try clear p2
                            try clear q195
                            obtain ⟨kq, x15_20, x195001_20, rfl, HA, HJ20, BK194, HI193, HB⟩ := hcut
                            cases kq with
                            | zero => exact absurd HA.out (by simp [bywashlaw8_SplitPlays.j3])
                            | succ kj20 =>
                              have H := HA.out
                              clear HA
                              simp only [bywashlaw8_SplitPlays.j3] at H
                              replace H := Option.bind_eq_some_iff.mp H
                              obtain ⟨⟨t196, t197, t198, t199⟩, A280, H⟩ := H
                              replace H : (if t196 = x15_20 then (if x76_3 < (l2.length : Int) then (if 0 ≤ x76_3 then (bywashlaw8_SplitPlays.j4 kj20 l2 (mn (mx (rd l2 x76_3) 0) 9) l1 (l1.length : Int) x76_3 t197 t198 t199 x195000_3 x195001_20 x195002_3) else (none)) else (bywashlaw8_SplitPlays.j4 kj20 l2 1 l1 (l1.length : Int) x76_3 t197 t198 t199 x195000_3 x195001_20 x195002_3)) else (some false)) = some r := H
                              have A28 := Aside0.mk A280
                              clear A280
                              by_cases c29 : t196 = x15_20
                              · rw [if_pos c29] at H
                                have c29b0 : (t196 == x15_20) = true := beq_iff_eq.mpr c29
                                have c29b1 : (t196 != x15_20) = false := bne_eq_false_iff_eq.mpr c29
                                clear c29
                                have HC30 := Aside0.mk H
                                clear H
                                go_upto_if 106 with (first | ((with_reducible refine gate_callee (f := 12) rfl ?_); refine goesL_ (some 100) rfl rfl Try.func12 (by kernel_rfl) rfl #[.pointer (some ⟨g193, 0, none⟩), .string (rdOf ByteArray.empty l1 x76_3)] rfl (by (try simp only [List.map_toArray, List.map_cons, List.map_nil]); first | done | rfl | (simp only [List.length_drop, List.length_take]; rfl)) ?_; (with_reducible refine (split_Splitter_Feed.calls g193 x194000_3 x194001_3 x194002_3 (rdOf ByteArray.empty l1 x76_3) t196 t197 t198 t199 w _ ?side1 ?side2 A28.out).mono ?_); (case side1 => repeat (first | (with_reducible first | exact HI193.out | apply IsS49.alloc | apply IsS49.drewN | apply IsS49.drew | apply IsS49.set_0 | apply IsS49.set_1 | apply IsS49.set_2 | refine IsS49.far ?_ NB193_194.out _ | apply IsS49.far (hne := NB193_194.out)) | exact HI193.out)); (case side2 => repeat (first | (with_reducible first | exact HB.out | apply below_alloc | apply pw_below_drewN | apply below_drew1 | refine below_set ?_ (IsS49.ge HI193.out) | refine below_set ?_ GE194.out) | exact HB.out)); rintro e w31 ⟨rfl, hi, hb, hk⟩; refine ⟨_, rfl, ?_⟩; have n0_ := Aside0.mk (KeepBut.blk hk (g' := gb194) (o := .cells #[.int .i64 x195000_3, .string x195001_20, .bool x195002_3] 36 (0, 0)) (by (with_reducible repeat (first | refine blk_drewN ?_ _ | refine blk_drew ?_ | refine blk_alloc ?_ _)); exact BK194.out) NB194_193.out (by simp)); have n1_ := Aside0.mk (hb); have n2_ := Aside0.mk (hi); clear BK194; clear HB; clear HI193; have BK194 := n0_; have HB := n1_; have HI193 := n2_; clear n0_ n1_ n2_; (try clear hb); (try clear hb2); (try clear hk); (try clear hi)))
                                (try simp only [Act.put, List.setIfInBounds_toArray, List.set_cons_zero, List.set_cons_succ])
                                go_cut [16] (fun v16 wc => ∃ (kq : Nat) (x16_29 : Int), v16 = .int .i64 x16_29 ∧ Aside0 (bywashlaw8_SplitPlays.j4 kq l2 x16_29 l1 (l1.length : Int) x76_3 t197 t198 t199 x195000_3 x195001_20 x195002_3 = some r) ∧ Aside0 (kq ≤ kj20) ∧ Aside0 (wc.heap[gb194]? = some (.cells #[.int .i64 x195000_3, .string x195001_20, .bool x195002_3] 36 (0, 0))) ∧ Aside0 (IsS49 w wc g193 t197 t198 t199) ∧ Aside0 (Below w.heap.size w wc))
                                case first =>
                                  have H := HC30.out
                                  clear HC30
                                  by_cases c32 : x76_3 < (l2.length : Int)
                                  · rw [if_pos c32] at H
                                    have c32b0 : decide (x76_3 < (l2.length : Int)) = true := decide_eq_true c32
                                    clear c32
                                    (first | rw [c32b0] | (simp only [i64_w, i32_w]; rw [c32b0]) | skip)
                                    by_cases c33 : 0 ≤ x76_3
                                    · rw [if_pos c33] at H
                                      have c33b0 : decide (0 ≤ x76_3) = true := decide_eq_true c33
                                      clear c33
                                      obtain ⟨ji34, hji34⟩ : ∃ j_ : Int, (mx (rd l2 x76_3) 0) = j_ := ⟨_, rfl⟩
                                      replace H : (bywashlaw8_SplitPlays.j4 kj20 l2 (mn (ji34) 9) l1 (l1.length : Int) x76_3 t197 t198 t199 x195000_3 x195001_20 x195002_3) = some r := by first | (rw [hji34] at H; exact H) | (simp only [hji34] at H ⊢; exact H)
                                      have hji34_ : (if (rd l2 x76_3) < 0 then 0 else (rd l2 x76_3)) = ji34 := hji34
                                      obtain ⟨ji35, hji35⟩ : ∃ j_ : Int, (mn (ji34) 9) = j_ := ⟨_, rfl⟩
                                      replace H : (bywashlaw8_SplitPlays.j4 kj20 l2 ji35 l1 (l1.length : Int) x76_3 t197 t198 t199 x195000_3 x195001_20 x195002_3) = some r := by first | (rw [hji35] at H; exact H) | (simp only [hji35] at H ⊢; exact H)
                                      have hji35_ : (if 9 < (ji34) then 9 else (ji34)) = ji35 := hji35
                                      have H' := Aside0.mk H
                                      clear H
                                      have p200 : 0 ≤ (x76_3 : Int) := of_decide_eq_true (by first | (with_reducible assumption) | assumption)
                                      have q200 : x76_3 < (l2.length : Int) := of_decide_eq_true (by first | (with_reducible assumption) | assumption)
                                      obtain ⟨ad200, e200, hx200_0⟩ := Kd.at_int HR2.out x76_3 p200 q200
                                      cases e200
                                      replace hx200_0 := (HB.out.cell (World.block_lt_of_cell? w _ hx200_0)).trans hx200_0
                                      replace p200 := eq_true p200
                                      replace q200 := eq_true q200
                                      go_wp2
                                      go_meet
                                      case rel => exact ⟨_, (ji35), (by first | rfl | (simp; done) | (simp only [← hji35] <;> (first | rfl | simp)) | (simp [*]; done)), H', ⟨by have := HJ3.out; have := HJ11.out; have := HK3.out; have := HJ20.out; first | omega | exact Nat.le_refl _⟩, ⟨by (with_reducible repeat (first | refine blk_drewN ?_ _ | refine blk_drew ?_ | refine blk_alloc ?_ _)); exact BK194.out⟩, ⟨by repeat (first | (with_reducible first | exact HI193.out | apply IsS49.alloc | apply IsS49.drewN | apply IsS49.drew | apply IsS49.set_0 | apply IsS49.set_1 | apply IsS49.set_2 | refine IsS49.far ?_ NB193_194.out _ | apply IsS49.far (hne := NB193_194.out)) | exact HI193.out)⟩, ⟨by repeat (first | (with_reducible first | exact HB.out | apply below_alloc | apply pw_below_drewN | apply below_drew1 | refine below_set ?_ (IsS49.ge HI193.out) | refine below_set ?_ GE194.out) | exact HB.out)⟩⟩
                                    · rw [if_neg c33] at H
                                      exact absurd H (by simp)
                                  · rw [if_neg c32] at H
                                    have c32b0 : decide (x76_3 < (l2.length : Int)) = false := decide_eq_false c32
                                    clear c32
                                    (first | rw [c32b0] | (simp only [i64_w, i32_w]; rw [c32b0]) | skip)
                                    have H' := Aside0.mk H
                                    clear H
                                    go_wp2
                                    go_meet
                                    case rel => exact ⟨_, (1), (by first | rfl | (simp; done) | (simp [*]; done)), H', ⟨by have := HJ3.out; have := HJ11.out; have := HK3.out; have := HJ20.out; first | omega | exact Nat.le_refl _⟩, ⟨by (with_reducible repeat (first | refine blk_drewN ?_ _ | refine blk_drew ?_ | refine blk_alloc ?_ _)); exact BK194.out⟩, ⟨by repeat (first | (with_reducible first | exact HI193.out | apply IsS49.alloc | apply IsS49.drewN | apply IsS49.drew | apply IsS49.set_0 | apply IsS49.set_1 | apply IsS49.set_2 | refine IsS49.far ?_ NB193_194.out _ | apply IsS49.far (hne := NB193_194.out)) | exact HI193.out)⟩, ⟨by repeat (first | (with_reducible first | exact HB.out | apply below_alloc | apply pw_below_drewN | apply below_drew1 | refine below_set ?_ (IsS49.ge HI193.out) | refine below_set ?_ GE194.out) | exact HB.out)⟩⟩
                                case rest =>
                                  clear HC30
                                  try clear c1
                                  try clear p1
                                  try clear q1
                                  try clear hx1
                                  try clear c2
                                  try clear p2
                                  try clear q2
                                  try clear hx2
                                  try clear c3
                                  try clear c5
                                  try clear c5b0
                                  try clear c5b1
                                  try clear c8
                                  try clear c9
                                  try clear c10
                                  try clear c12
                                  try clear c14
                                  try clear c14b0
                                  try clear c15
                                  try clear c17
                                  try clear c17b0
                                  try clear c18
                                  try clear c18b0
                                  try clear c19
                                  try clear c19b0
                                  try clear p19
                                  try clear q19
                                  try clear hx19
                                  try clear c20
                                  try clear c20b0
                                  try clear c20b1
                                  try clear p20
                                  try clear q20
                                  try clear hx20
                                  try clear c22
                                  try clear c24
                                  try clear c25
                                  try clear c25b0
                                  try clear c25b1
                                  try clear c25b2
                                  try clear c26
                                  try clear c29
                                  try clear c29b0
                                  try clear c29b1
                                  try clear c32
                                  try clear c32b0
                                  try clear c33
                                  try clear c33b0
                                  try clear hcz23_0
                                  try clear hcz23_1
                                  try clear hcz23_2
                                  try clear hcz27_0
                                  try clear hcz27_1
                                  try clear hcz27_2
                                  try clear hfz23_0
                                  try clear hfz23_1
                                  try clear hfz23_2
                                  try clear hfz27_0
                                  try clear hfz27_1
                                  try clear hfz27_2
                                  try clear hx195_0
                                  try clear hx200_0
                                  try clear p1
                                  try clear p19
                                  try clear p195
                                  try clear p2
                                  try clear p200
                                  try clear q1
                                  try clear q19
                                  try clear q195
                                  try clear q200
                                  obtain ⟨kq, x16_29, rfl, HA, HJ29, BK194, HI193, HB⟩ := hcut
                                  cases kq with
                                  | zero => exact absurd HA.out (by simp [bywashlaw8_SplitPlays.j4])
                                  | succ kj29 =>
                                    have H := HA.out
                                    clear HA
                                    simp only [bywashlaw8_SplitPlays.j4] at H
                                    have H' := Aside0.mk H
                                    clear H
                                    go_wp2
                                    go_loopg [16] kj29 (fun kq v16 w' => ∃ (x16_6 : Int) (x194000_6 : ByteArray) (x194001_6 : Int) (x194002_6 : Bool) (x195000_6 : Int) (x195001_6 : ByteArray) (x195002_6 : Bool), v16 = .int .i64 x16_6 ∧ Aside0 (bywashlaw8_SplitPlays.l1 kq l2 x16_6 l1 (l1.length : Int) x76_3 x194000_6 x194001_6 x194002_6 x195000_6 x195001_6 x195002_6 = some r) ∧ Aside0 (kq ≤ kj29) ∧ Aside0 (w'.heap[gb194]? = some (.cells #[.int .i64 x195000_6, .string x195001_6, .bool x195002_6] 36 (0, 0))) ∧ Aside0 (IsS49 w w' g193 x194000_6 x194001_6 x194002_6) ∧ Aside0 (Below w.heap.size w w'))
                                    case atStart => exact ⟨(x16_29), (t197), (t198), (t199), (x195000_3), (x195001_20), (x195002_3), (by first | rfl | (simp; done) | (simp [*]; done)), H', ⟨Nat.le_refl _⟩, ⟨by (with_reducible repeat (first | refine blk_drewN ?_ _ | refine blk_drew ?_ | refine blk_alloc ?_ _)); exact BK194.out⟩, ⟨by repeat (first | (with_reducible first | exact HI193.out | apply IsS49.alloc | apply IsS49.drewN | apply IsS49.drew | apply IsS49.set_0 | apply IsS49.set_1 | apply IsS49.set_2 | refine IsS49.far ?_ NB193_194.out _ | apply IsS49.far (hne := NB193_194.out)) | exact HI193.out)⟩, ⟨by repeat (first | (with_reducible first | exact HB.out | apply below_alloc | apply pw_below_drewN | apply below_drew1 | refine below_set ?_ (IsS49.ge HI193.out) | refine below_set ?_ GE194.out) | exact HB.out)⟩⟩
                                    case round =>
                                      clear H'
                                      try clear c1
                                      try clear p1
                                      try clear q1
                                      try clear hx1
                                      try clear c2
                                      try clear p2
                                      try clear q2
                                      try clear hx2
                                      try clear c3
                                      try clear c5
                                      try clear c5b0
                                      try clear c5b1
                                      try clear c8
                                      try clear c9
                                      try clear c10
                                      try clear c12
                                      try clear c14
                                      try clear c14b0
                                      try clear c15
                                      try clear c17
                                      try clear c17b0
                                      try clear c18
                                      try clear c18b0
                                      try clear c19
                                      try clear c19b0
                                      try clear p19
                                      try clear q19
                                      try clear hx19
                                      try clear c20
                                      try clear c20b0
                                      try clear c20b1
                                      try clear p20
                                      try clear q20
                                      try clear hx20
                                      try clear c22
                                      try clear c24
                                      try clear c25
                                      try clear c25b0
                                      try clear c25b1
                                      try clear c25b2
                                      try clear c26
                                      try clear c29
                                      try clear c29b0
                                      try clear c29b1
                                      try clear c32
                                      try clear c32b0
                                      try clear c33
                                      try clear c33b0
                                      try clear hcz23_0
                                      try clear hcz23_1
                                      try clear hcz23_2
                                      try clear hcz27_0
                                      try clear hcz27_1
                                      try clear hcz27_2
                                      try clear hfz23_0
                                      try clear hfz23_1
                                      try clear hfz23_2
                                      try clear hfz27_0
                                      try clear hfz27_1
                                      try clear hfz27_2
                                      try clear hx195_0
                                      try clear hx200_0
                                      try clear p1
                                      try clear p19
                                      try clear p195
                                      try clear p2
                                      try clear p20
                                      try clear p200
                                      try clear q1
                                      try clear q19
                                      try clear q195
                                      try clear q2
                                      try clear q20
                                      try clear q200
                                      obtain ⟨x16_6, x194000_6, x194001_6, x194002_6, x195000_6, x195001_6, x195002_6, rfl, HA, HK6, BK194, HI193, HB⟩ := hrel
                                      cases gk with
                                      | zero => exact absurd HA.out (by simp [bywashlaw8_SplitPlays.l1])
                                      | succ k6 =>
                                        have H := HA.out
                                        clear HA
                                        simp only [bywashlaw8_SplitPlays.l1] at H
                                        by_cases c36 : x16_6 > 0
                                        · rw [if_pos c36] at H
                                          have c36b0 : decide (0 < x16_6) = true := decide_eq_true c36
                                          clear c36
                                          replace H := Option.bind_eq_some_iff.mp H
                                          obtain ⟨⟨t201, t202, t203, t204, t205, t206, t207, t208, t209⟩, A370, H⟩ := H
                                          replace H : ((bywashref1_Splitter_Next.f k6 x195000_6 x195001_6 x195002_6).bind fun bt211 => (if (!(t201 == bt211.1) || (!(t202 == bt211.2.1) || (!(t203 == bt211.2.2.1) || (!(t204.toList == bt211.2.2.2.1.toList))))) = true then (bywashlaw8_SplitPlays.j6 k6 l2 x16_6 l1 (l1.length : Int) x76_3 true t207 t208 t209 bt211.2.2.2.2.2.2.1 bt211.2.2.2.2.2.2.2.1 bt211.2.2.2.2.2.2.2.2) else (if t205 = true then (if bt211.2.2.2.2.1 = true then (bywashlaw8_SplitPlays.j6 k6 l2 x16_6 l1 (l1.length : Int) x76_3 (t206 != bt211.2.2.2.2.2.1) t207 t208 t209 bt211.2.2.2.2.2.2.1 bt211.2.2.2.2.2.2.2.1 bt211.2.2.2.2.2.2.2.2) else (bywashlaw8_SplitPlays.j6 k6 l2 x16_6 l1 (l1.length : Int) x76_3 true t207 t208 t209 bt211.2.2.2.2.2.2.1 bt211.2.2.2.2.2.2.2.1 bt211.2.2.2.2.2.2.2.2)) else (if bt211.2.2.2.2.1 = true then (bywashlaw8_SplitPlays.j6 k6 l2 x16_6 l1 (l1.length : Int) x76_3 true t207 t208 t209 bt211.2.2.2.2.2.2.1 bt211.2.2.2.2.2.2.2.1 bt211.2.2.2.2.2.2.2.2) else (bywashlaw8_SplitPlays.j6 k6 l2 x16_6 l1 (l1.length : Int) x76_3 (t206 != bt211.2.2.2.2.2.1) t207 t208 t209 bt211.2.2.2.2.2.2.1 bt211.2.2.2.2.2.2.2.1 bt211.2.2.2.2.2.2.2.2))))) = some r := H
                                          have A37 := Aside0.mk A370
                                          clear A370
                                          replace H := Option.bind_eq_some_iff.mp H
                                          obtain ⟨⟨t211, t212, t213, t214, t215, t216, t217, t218, t219⟩, A380, H⟩ := H
                                          replace H : (if (!(t201 == t211) || (!(t202 == t212) || (!(t203 == t213) || (!(t204.toList == t214.toList))))) = true then (bywashlaw8_SplitPlays.j6 k6 l2 x16_6 l1 (l1.length : Int) x76_3 true t207 t208 t209 t217 t218 t219) else (if t205 = true then (if t215 = true then (bywashlaw8_SplitPlays.j6 k6 l2 x16_6 l1 (l1.length : Int) x76_3 (t206 != t216) t207 t208 t209 t217 t218 t219) else (bywashlaw8_SplitPlays.j6 k6 l2 x16_6 l1 (l1.length : Int) x76_3 true t207 t208 t209 t217 t218 t219)) else (if t215 = true then (bywashlaw8_SplitPlays.j6 k6 l2 x16_6 l1 (l1.length : Int) x76_3 true t207 t208 t209 t217 t218 t219) else (bywashlaw8_SplitPlays.j6 k6 l2 x16_6 l1 (l1.length : Int) x76_3 (t206 != t216) t207 t208 t209 t217 t218 t219)))) = some r := H
                                          have A38 := Aside0.mk A380
                                          clear A380
                                          have HC39 := Aside0.mk H
                                          clear H
                                          go_upto_region 29 with (first | ((with_reducible refine gate_callee (f := 11) rfl ?_); refine goesL_ (some 119) rfl rfl Try.func11 (by kernel_rfl) rfl #[.pointer (some ⟨g193, 0, none⟩)] rfl (by (try simp only [List.map_toArray, List.map_cons, List.map_nil]); first | done | rfl | (simp only [List.length_drop, List.length_take]; rfl)) ?_; (with_reducible refine (split_Splitter_Next.calls k6 g193 x194000_6 x194001_6 x194002_6 t201 t202 t203 t204 t205 t206 t207 t208 t209 w _ ?side1 ?side2 A37.out).mono ?_); (case side1 => repeat (first | (with_reducible first | exact HI193.out | apply IsS49.alloc | apply IsS49.drewN | apply IsS49.drew | apply IsS49.set_0 | apply IsS49.set_1 | apply IsS49.set_2 | refine IsS49.far ?_ NB193_194.out _ | apply IsS49.far (hne := NB193_194.out)) | exact HI193.out)); (case side2 => repeat (first | (with_reducible first | exact HB.out | apply below_alloc | apply pw_below_drewN | apply below_drew1 | refine below_set ?_ (IsS49.ge HI193.out) | refine below_set ?_ GE194.out) | exact HB.out)); rintro e w40 ⟨rfl, hi, hb, hk⟩; refine ⟨_, rfl, ?_⟩; have n0_ := Aside0.mk (KeepBut.blk hk (g' := gb194) (o := .cells #[.int .i64 x195000_6, .string x195001_6, .bool x195002_6] 36 (0, 0)) (by (with_reducible repeat (first | refine blk_drewN ?_ _ | refine blk_drew ?_ | refine blk_alloc ?_ _)); exact BK194.out) NB194_193.out (by simp)); have n1_ := Aside0.mk (hb); have n2_ := Aside0.mk (hi); clear BK194; clear HB; clear HI193; have BK194 := n0_; have HB := n1_; have HI193 := n2_; clear n0_ n1_ n2_; (try clear hb); (try clear hb2); (try clear hk); (try clear hi)) | ((with_reducible refine gate_dst (N := 17) rfl ?_); refine box_event ?hg (N := 17) ?hd (cs := #[.int .i64 0, .int .i64 0, .int .i64 0, .string (⟨#[]⟩ : ByteArray)]) (t := 28) ?hr ?_; (case hd => rfl); (case hg => rfl); (case hr => first | (go_simp; done) | (go_simp; rfl)); intro gb210 hg w41 hbox hb; have n0_ := Aside0.mk (blk_below (g := gb194) (o := .cells #[.int .i64 x195000_6, .string x195001_6, .bool x195002_6] 36 (0, 0)) (by (with_reducible repeat (first | refine blk_drewN ?_ _ | refine blk_drew ?_ | refine blk_alloc ?_ _)); exact BK194.out) hb); have n1_ := Aside0.mk (IsS49.below (by repeat (first | (with_reducible first | exact HI193.out | apply IsS49.alloc | apply IsS49.drewN | apply IsS49.drew | apply IsS49.set_0 | apply IsS49.set_1 | apply IsS49.set_2 | refine IsS49.far ?_ NB193_194.out _ | apply IsS49.far (hne := NB193_194.out)) | exact HI193.out)) hb); have n2_ := Aside0.mk (below_step (by repeat (first | (with_reducible first | exact HB.out | apply below_alloc | apply pw_below_drewN | apply below_drew1 | refine below_set ?_ (IsS49.ge HI193.out) | refine below_set ?_ GE194.out) | exact HB.out)) hb); have n3_ := Aside0.mk (hbox); have n4_ := Aside0.mk ((by rw [hg]; exact (below_size (by repeat (first | (with_reducible first | exact HB.out | apply below_alloc | apply pw_below_drewN | apply below_drew1 | refine below_set ?_ (IsS49.ge HI193.out) | refine below_set ?_ GE194.out) | exact HB.out))) : w.heap.size ≤ gb210)); have n5_ := Aside0.mk ((by rw [hg]; exact (below_size (by repeat (first | (with_reducible first | exact HB.out | apply below_alloc | apply pw_below_drewN | apply below_drew1 | refine below_set ?_ (IsS49.ge HI193.out) | refine below_set ?_ GE194.out) | exact HB.out))) : w.heap.size ≤ gb210)); have n6_ := Aside0.mk ((by rw [hg]; exact Nat.ne_of_lt (blk_lt (g := gb194) (o := .cells #[.int .i64 x195000_6, .string x195001_6, .bool x195002_6] 36 (0, 0)) (by (with_reducible repeat (first | refine blk_drewN ?_ _ | refine blk_drew ?_ | refine blk_alloc ?_ _)); exact BK194.out)) : gb194 ≠ gb210)); have n7_ := Aside0.mk ((by rw [hg]; exact Nat.ne_of_gt (blk_lt (g := gb194) (o := .cells #[.int .i64 x195000_6, .string x195001_6, .bool x195002_6] 36 (0, 0)) (by (with_reducible repeat (first | refine blk_drewN ?_ _ | refine blk_drew ?_ | refine blk_alloc ?_ _)); exact BK194.out)) : gb210 ≠ gb194)); have n8_ := Aside0.mk ((by rw [hg]; exact Nat.ne_of_lt (IsS49.lt (show IsS49 w _ g193 t207 t208 t209 from by repeat (first | (with_reducible first | exact HI193.out | apply IsS49.alloc | apply IsS49.drewN | apply IsS49.drew | apply IsS49.set_0 | apply IsS49.set_1 | apply IsS49.set_2 | refine IsS49.far ?_ NB193_194.out _ | apply IsS49.far (hne := NB193_194.out)) | exact HI193.out))) : g193 ≠ gb210)); have n9_ := Aside0.mk ((by rw [hg]; exact Nat.ne_of_gt (IsS49.lt (show IsS49 w _ g193 t207 t208 t209 from by repeat (first | (with_reducible first | exact HI193.out | apply IsS49.alloc | apply IsS49.drewN | apply IsS49.drew | apply IsS49.set_0 | apply IsS49.set_1 | apply IsS49.set_2 | refine IsS49.far ?_ NB193_194.out _ | apply IsS49.far (hne := NB193_194.out)) | exact HI193.out))) : gb210 ≠ g193)); clear BK194; clear HI193; clear HB; have BK194 := n0_; have HI193 := n1_; have HB := n2_; have BK210 := n3_; have GW210 := n4_; have GE210 := n5_; have NB194_210 := n6_; have NB210_194 := n7_; have NB193_210 := n8_; have NB210_193 := n9_; clear n0_ n1_ n2_ n3_ n4_ n5_ n6_ n7_ n8_ n9_; clear hb hbox hg; have hnb42 := NB210_194.out; have hnc42 := NB194_210.out; have hnb43 := NB210_193.out; have hnc43 := NB193_210.out; have hcz44_0 : w41.cell? ⟨gb210, 0, none⟩ = some (.int .i64 0) := (blk_cell BK210.out 0).trans rfl; have hcz44_1 : w41.cell? ⟨gb210, 1, none⟩ = some (.int .i64 0) := (blk_cell BK210.out 1).trans rfl; have hcz44_2 : w41.cell? ⟨gb210, 2, none⟩ = some (.int .i64 0) := (blk_cell BK210.out 2).trans rfl; have hcz44_3 : w41.cell? ⟨gb210, 3, none⟩ = some (.string (⟨#[]⟩ : ByteArray)) := (blk_cell BK210.out 3).trans rfl; have hfz44_0 := blk_frozen BK210.out 0; have hfz44_1 := blk_frozen BK210.out 1; have hfz44_2 := blk_frozen BK210.out 2; have hfz44_3 := blk_frozen BK210.out 3) | ((with_reducible refine gate_callee (f := 15) rfl ?_); refine goesL_ (some 125) rfl rfl Try.func15 (by kernel_rfl) rfl #[.pointer (some ⟨gb194, 0, none⟩)] rfl (by (try simp only [List.map_toArray, List.map_cons, List.map_nil]); first | done | rfl | (simp only [List.length_drop, List.length_take]; rfl)) ?_; (with_reducible refine (bywashref1_Splitter_Next.calls k6 gb194 x195000_6 x195001_6 x195002_6 t211 t212 t213 t214 t215 t216 t217 t218 t219 w _ ?side1 ?side2 A38.out).mono ?_); (case side1 => exact ⟨by (with_reducible repeat (first | refine blk_drewN ?_ _ | refine blk_drew ?_ | refine blk_alloc ?_ _)); refine blk_far ?_ NB194_210.out _; (with_reducible repeat (first | refine blk_drewN ?_ _ | refine blk_drew ?_ | refine blk_alloc ?_ _)); refine blk_far ?_ NB194_210.out _; (with_reducible repeat (first | refine blk_drewN ?_ _ | refine blk_drew ?_ | refine blk_alloc ?_ _)); refine blk_far ?_ NB194_210.out _; (with_reducible repeat (first | refine blk_drewN ?_ _ | refine blk_drew ?_ | refine blk_alloc ?_ _)); refine blk_far ?_ NB194_210.out _; (with_reducible repeat (first | refine blk_drewN ?_ _ | refine blk_drew ?_ | refine blk_alloc ?_ _)); exact BK194.out, GE194.out⟩); (case side2 => repeat (first | (with_reducible first | exact HB.out | apply below_alloc | apply pw_below_drewN | apply below_drew1 | refine below_set ?_ (IsS49.ge HI193.out) | refine below_set ?_ GE194.out | refine below_set ?_ GE210.out) | exact HB.out)); rintro e w45 ⟨rfl, hi, hb, hk⟩; refine ⟨_, rfl, ?_⟩; have n0_ := Aside0.mk (hi.1); have n1_ := Aside0.mk (show IsS49 w _ g193 t207 t208 t209 from ⟨KeepBut.blk hk (show IsS49 w _ g193 t207 t208 t209 from by repeat (first | (with_reducible first | exact HI193.out | apply IsS49.alloc | apply IsS49.drewN | apply IsS49.drew | apply IsS49.set_0 | apply IsS49.set_1 | apply IsS49.set_2 | refine IsS49.far ?_ NB193_194.out _ | apply IsS49.far (hne := NB193_194.out) | refine IsS49.far ?_ NB193_210.out _ | apply IsS49.far (hne := NB193_210.out)) | exact HI193.out)).1 NB193_194.out (by simp), (HI193.out).2⟩); have n2_ := Aside0.mk (KeepBut.blk hk (g' := gb210) (o := .cells #[.int .i64 t201, .int .i64 t202, .int .i64 t203, .string t204] 28 (0, 0)) (by (with_reducible repeat (first | refine blk_drewN ?_ _ | refine blk_drew ?_ | refine blk_alloc ?_ _)); refine blk_put (cs := #[.int .i64 t201, .int .i64 t202, .int .i64 t203, .string (⟨#[]⟩ : ByteArray)]) ?_ 3 _ rfl; (with_reducible repeat (first | refine blk_drewN ?_ _ | refine blk_drew ?_ | refine blk_alloc ?_ _)); refine blk_put (cs := #[.int .i64 t201, .int .i64 t202, .int .i64 0, .string (⟨#[]⟩ : ByteArray)]) ?_ 2 _ rfl; (with_reducible repeat (first | refine blk_drewN ?_ _ | refine blk_drew ?_ | refine blk_alloc ?_ _)); refine blk_put (cs := #[.int .i64 t201, .int .i64 0, .int .i64 0, .string (⟨#[]⟩ : ByteArray)]) ?_ 1 _ rfl; (with_reducible repeat (first | refine blk_drewN ?_ _ | refine blk_drew ?_ | refine blk_alloc ?_ _)); refine blk_put (cs := #[.int .i64 0, .int .i64 0, .int .i64 0, .string (⟨#[]⟩ : ByteArray)]) ?_ 0 _ rfl; (with_reducible repeat (first | refine blk_drewN ?_ _ | refine blk_drew ?_ | refine blk_alloc ?_ _)); exact BK210.out) NB210_194.out (by simp)); have n3_ := Aside0.mk (hb); clear BK194; clear HI193; clear BK210; clear HB; have BK194 := n0_; have HI193 := n1_; have BK210 := n2_; have HB := n3_; clear n0_ n1_ n2_ n3_; (try clear hb); (try clear hb2); (try clear hk); (try clear hi)) | ((with_reducible refine gate_dst (N := 20) rfl ?_); refine box_event ?hg (N := 20) ?hd (cs := #[.int .i64 0, .int .i64 0, .int .i64 0, .string (⟨#[]⟩ : ByteArray)]) (t := 28) ?hr ?_; (case hd => rfl); (case hg => rfl); (case hr => first | (go_simp; done) | (go_simp; rfl)); intro gb220 hg w46 hbox hb; have n0_ := Aside0.mk (blk_below (g := gb194) (o := .cells #[.int .i64 t217, .string t218, .bool t219] 36 (0, 0)) (by (with_reducible repeat (first | refine blk_drewN ?_ _ | refine blk_drew ?_ | refine blk_alloc ?_ _)); exact BK194.out) hb); have n1_ := Aside0.mk (IsS49.below (by repeat (first | (with_reducible first | exact HI193.out | apply IsS49.alloc | apply IsS49.drewN | apply IsS49.drew | apply IsS49.set_0 | apply IsS49.set_1 | apply IsS49.set_2 | refine IsS49.far ?_ NB193_194.out _ | apply IsS49.far (hne := NB193_194.out) | refine IsS49.far ?_ NB193_210.out _ | apply IsS49.far (hne := NB193_210.out)) | exact HI193.out)) hb); have n2_ := Aside0.mk (blk_below (g := gb210) (o := .cells #[.int .i64 t201, .int .i64 t202, .int .i64 t203, .string t204] 28 (0, 0)) (by (with_reducible repeat (first | refine blk_drewN ?_ _ | refine blk_drew ?_ | refine blk_alloc ?_ _)); exact BK210.out) hb); have n3_ := Aside0.mk (below_step (by repeat (first | (with_reducible first | exact HB.out | apply below_alloc | apply pw_below_drewN | apply below_drew1 | refine below_set ?_ (IsS49.ge HI193.out) | refine below_set ?_ GE194.out | refine below_set ?_ GE210.out) | exact HB.out)) hb); have n4_ := Aside0.mk (hbox); have n5_ := Aside0.mk ((by rw [hg]; exact (below_size (by repeat (first | (with_reducible first | exact HB.out | apply below_alloc | apply pw_below_drewN | apply below_drew1 | refine below_set ?_ (IsS49.ge HI193.out) | refine below_set ?_ GE194.out | refine below_set ?_ GE210.out) | exact HB.out))) : w.heap.size ≤ gb220)); have n6_ := Aside0.mk ((by rw [hg]; exact (below_size (by repeat (first | (with_reducible first | exact HB.out | apply below_alloc | apply pw_below_drewN | apply below_drew1 | refine below_set ?_ (IsS49.ge HI193.out) | refine below_set ?_ GE194.out | refine below_set ?_ GE210.out) | exact HB.out))) : w.heap.size ≤ gb220)); have n7_ := Aside0.mk ((by rw [hg]; exact Nat.ne_of_lt (blk_lt (g := gb194) (o := .cells #[.int .i64 t217, .string t218, .bool t219] 36 (0, 0)) (by (with_reducible repeat (first | refine blk_drewN ?_ _ | refine blk_drew ?_ | refine blk_alloc ?_ _)); exact BK194.out)) : gb194 ≠ gb220)); have n8_ := Aside0.mk ((by rw [hg]; exact Nat.ne_of_gt (blk_lt (g := gb194) (o := .cells #[.int .i64 t217, .string t218, .bool t219] 36 (0, 0)) (by (with_reducible repeat (first | refine blk_drewN ?_ _ | refine blk_drew ?_ | refine blk_alloc ?_ _)); exact BK194.out)) : gb220 ≠ gb194)); have n9_ := Aside0.mk ((by rw [hg]; exact Nat.ne_of_lt (blk_lt (g := gb210) (o := .cells #[.int .i64 t201, .int .i64 t202, .int .i64 t203, .string t204] 28 (0, 0)) (by (with_reducible repeat (first | refine blk_drewN ?_ _ | refine blk_drew ?_ | refine blk_alloc ?_ _)); exact BK210.out)) : gb210 ≠ gb220)); have n10_ := Aside0.mk ((by rw [hg]; exact Nat.ne_of_gt (blk_lt (g := gb210) (o := .cells #[.int .i64 t201, .int .i64 t202, .int .i64 t203, .string t204] 28 (0, 0)) (by (with_reducible repeat (first | refine blk_drewN ?_ _ | refine blk_drew ?_ | refine blk_alloc ?_ _)); exact BK210.out)) : gb220 ≠ gb210)); have n11_ := Aside0.mk ((by rw [hg]; exact Nat.ne_of_lt (IsS49.lt (show IsS49 w _ g193 t207 t208 t209 from by repeat (first | (with_reducible first | exact HI193.out | apply IsS49.alloc | apply IsS49.drewN | apply IsS49.drew | apply IsS49.set_0 | apply IsS49.set_1 | apply IsS49.set_2 | refine IsS49.far ?_ NB193_194.out _ | apply IsS49.far (hne := NB193_194.out) | refine IsS49.far ?_ NB193_210.out _ | apply IsS49.far (hne := NB193_210.out)) | exact HI193.out))) : g193 ≠ gb220)); have n12_ := Aside0.mk ((by rw [hg]; exact Nat.ne_of_gt (IsS49.lt (show IsS49 w _ g193 t207 t208 t209 from by repeat (first | (with_reducible first | exact HI193.out | apply IsS49.alloc | apply IsS49.drewN | apply IsS49.drew | apply IsS49.set_0 | apply IsS49.set_1 | apply IsS49.set_2 | refine IsS49.far ?_ NB193_194.out _ | apply IsS49.far (hne := NB193_194.out) | refine IsS49.far ?_ NB193_210.out _ | apply IsS49.far (hne := NB193_210.out)) | exact HI193.out))) : gb220 ≠ g193)); clear BK194; clear HI193; clear BK210; clear HB; have BK194 := n0_; have HI193 := n1_; have BK210 := n2_; have HB := n3_; have BK220 := n4_; have GW220 := n5_; have GE220 := n6_; have NB194_220 := n7_; have NB220_194 := n8_; have NB210_220 := n9_; have NB220_210 := n10_; have NB193_220 := n11_; have NB220_193 := n12_; clear n0_ n1_ n2_ n3_ n4_ n5_ n6_ n7_ n8_ n9_ n10_ n11_ n12_; clear hb hbox hg; have hnb47 := NB220_194.out; have hnc47 := NB194_220.out; have hnb48 := NB220_210.out; have hnc48 := NB210_220.out; have hnb49 := NB220_193.out; have hnc49 := NB193_220.out; have hcz50_0 : w46.cell? ⟨gb220, 0, none⟩ = some (.int .i64 0) := (blk_cell BK220.out 0).trans rfl; have hcz50_1 : w46.cell? ⟨gb220, 1, none⟩ = some (.int .i64 0) := (blk_cell BK220.out 1).trans rfl; have hcz50_2 : w46.cell? ⟨gb220, 2, none⟩ = some (.int .i64 0) := (blk_cell BK220.out 2).trans rfl; have hcz50_3 : w46.cell? ⟨gb220, 3, none⟩ = some (.string (⟨#[]⟩ : ByteArray)) := (blk_cell BK220.out 3).trans rfl; have hfz50_0 := blk_frozen BK220.out 0; have hfz50_1 := blk_frozen BK220.out 1; have hfz50_2 := blk_frozen BK220.out 2; have hfz50_3 := blk_frozen BK220.out 3))
                                          (try simp only [Act.put, List.setIfInBounds_toArray, List.set_cons_zero, List.set_cons_succ])
                                          go_cut [141] (fun v141 wc => ∃ (kq : Nat) (x141_38 : Bool), v141 = .bool x141_38 ∧ Aside0 (bywashlaw8_SplitPlays.j6 kq l2 x16_6 l1 (l1.length : Int) x76_3 x141_38 t207 t208 t209 t217 t218 t219 = some r) ∧ Aside0 (kq ≤ k6) ∧ Aside0 (wc.heap[gb194]? = some (.cells #[.int .i64 t217, .string t218, .bool t219] 36 (0, 0))) ∧ Aside0 (wc.heap[gb210]? = some (.cells #[.int .i64 t201, .int .i64 t202, .int .i64 t203, .string t204] 28 (0, 0))) ∧ Aside0 (wc.heap[gb220]? = some (.cells #[.int .i64 t211, .int .i64 t212, .int .i64 t213, .string t214] 28 (0, 0))) ∧ Aside0 (IsS49 w wc g193 t207 t208 t209) ∧ Aside0 (Below w.heap.size w wc))
                                          case first =>
                                            have H := HC39.out
                                            clear HC39
                                            by_cases c51 : (!(t201 == t211) || (!(t202 == t212) || (!(t203 == t213) || (!(t204.toList == t214.toList))))) = true
                                            · rw [if_pos c51] at H
                                              have c51b0 : (!(t201 == t211) || (!(t202 == t212) || (!(t203 == t213) || (!(t204.toList == t214.toList))))) = true := c51
                                              clear c51
                                              (first | rw [c51b0] | (simp only [i64_w, i32_w]; rw [c51b0]) | skip)
                                              have H' := Aside0.mk H
                                              clear H
                                              have hnb52 := NB210_194.out
                                              have hnc52 := NB194_210.out
                                              have hnb53 := NB210_220.out
                                              have hnc53 := NB220_210.out
                                              have hnb54 := NB210_193.out
                                              have hnc54 := NB193_210.out
                                              have hcz55_0 : w46.cell? ⟨gb210, 0, none⟩ = some (.int .i64 t201) := (blk_cell BK210.out 0).trans rfl
                                              have hcz55_1 : w46.cell? ⟨gb210, 1, none⟩ = some (.int .i64 t202) := (blk_cell BK210.out 1).trans rfl
                                              have hcz55_2 : w46.cell? ⟨gb210, 2, none⟩ = some (.int .i64 t203) := (blk_cell BK210.out 2).trans rfl
                                              have hcz55_3 : w46.cell? ⟨gb210, 3, none⟩ = some (.string t204) := (blk_cell BK210.out 3).trans rfl
                                              have hfz55_0 := blk_frozen BK210.out 0
                                              have hfz55_1 := blk_frozen BK210.out 1
                                              have hfz55_2 := blk_frozen BK210.out 2
                                              have hfz55_3 := blk_frozen BK210.out 3
                                              have hnb56 := NB220_194.out
                                              have hnc56 := NB194_220.out
                                              have hnb57 := NB220_193.out
                                              have hnc57 := NB193_220.out
                                              have hcz58_0 : w46.cell? ⟨gb220, 0, none⟩ = some (.int .i64 0) := (blk_cell BK220.out 0).trans rfl
                                              have hcz58_1 : w46.cell? ⟨gb220, 1, none⟩ = some (.int .i64 0) := (blk_cell BK220.out 1).trans rfl
                                              have hcz58_2 : w46.cell? ⟨gb220, 2, none⟩ = some (.int .i64 0) := (blk_cell BK220.out 2).trans rfl
                                              have hcz58_3 : w46.cell? ⟨gb220, 3, none⟩ = some (.string (⟨#[]⟩ : ByteArray)) := (blk_cell BK220.out 3).trans rfl
                                              have hfz58_0 := blk_frozen BK220.out 0
                                              have hfz58_1 := blk_frozen BK220.out 1
                                              have hfz58_2 := blk_frozen BK220.out 2
                                              have hfz58_3 := blk_frozen BK220.out 3
                                              go_wp2
                                              go_meet
                                              case rel => exact ⟨_, (true), (by first | rfl | (simp; done) | (simp [*]; done)), H', ⟨by have := HJ3.out; have := HJ11.out; have := HK3.out; have := HJ20.out; have := HJ29.out; have := HK6.out; first | omega | exact Nat.le_refl _⟩, ⟨by (with_reducible repeat (first | refine blk_drewN ?_ _ | refine blk_drew ?_ | refine blk_alloc ?_ _)); refine blk_far ?_ NB194_220.out _; (with_reducible repeat (first | refine blk_drewN ?_ _ | refine blk_drew ?_ | refine blk_alloc ?_ _)); refine blk_far ?_ NB194_220.out _; (with_reducible repeat (first | refine blk_drewN ?_ _ | refine blk_drew ?_ | refine blk_alloc ?_ _)); refine blk_far ?_ NB194_220.out _; (with_reducible repeat (first | refine blk_drewN ?_ _ | refine blk_drew ?_ | refine blk_alloc ?_ _)); refine blk_far ?_ NB194_220.out _; (with_reducible repeat (first | refine blk_drewN ?_ _ | refine blk_drew ?_ | refine blk_alloc ?_ _)); exact BK194.out⟩, ⟨by (with_reducible repeat (first | refine blk_drewN ?_ _ | refine blk_drew ?_ | refine blk_alloc ?_ _)); refine blk_far ?_ NB210_220.out _; (with_reducible repeat (first | refine blk_drewN ?_ _ | refine blk_drew ?_ | refine blk_alloc ?_ _)); refine blk_far ?_ NB210_220.out _; (with_reducible repeat (first | refine blk_drewN ?_ _ | refine blk_drew ?_ | refine blk_alloc ?_ _)); refine blk_far ?_ NB210_220.out _; (with_reducible repeat (first | refine blk_drewN ?_ _ | refine blk_drew ?_ | refine blk_alloc ?_ _)); refine blk_far ?_ NB210_220.out _; (with_reducible repeat (first | refine blk_drewN ?_ _ | refine blk_drew ?_ | refine blk_alloc ?_ _)); exact BK210.out⟩, ⟨by (with_reducible repeat (first | refine blk_drewN ?_ _ | refine blk_drew ?_ | refine blk_alloc ?_ _)); refine blk_put (cs := #[.int .i64 t211, .int .i64 t212, .int .i64 t213, .string (⟨#[]⟩ : ByteArray)]) ?_ 3 _ rfl; (with_reducible repeat (first | refine blk_drewN ?_ _ | refine blk_drew ?_ | refine blk_alloc ?_ _)); refine blk_put (cs := #[.int .i64 t211, .int .i64 t212, .int .i64 0, .string (⟨#[]⟩ : ByteArray)]) ?_ 2 _ rfl; (with_reducible repeat (first | refine blk_drewN ?_ _ | refine blk_drew ?_ | refine blk_alloc ?_ _)); refine blk_put (cs := #[.int .i64 t211, .int .i64 0, .int .i64 0, .string (⟨#[]⟩ : ByteArray)]) ?_ 1 _ rfl; (with_reducible repeat (first | refine blk_drewN ?_ _ | refine blk_drew ?_ | refine blk_alloc ?_ _)); refine blk_put (cs := #[.int .i64 0, .int .i64 0, .int .i64 0, .string (⟨#[]⟩ : ByteArray)]) ?_ 0 _ rfl; (with_reducible repeat (first | refine blk_drewN ?_ _ | refine blk_drew ?_ | refine blk_alloc ?_ _)); exact BK220.out⟩, ⟨by repeat (first | (with_reducible first | exact HI193.out | apply IsS49.alloc | apply IsS49.drewN | apply IsS49.drew | apply IsS49.set_0 | apply IsS49.set_1 | apply IsS49.set_2 | refine IsS49.far ?_ NB193_194.out _ | apply IsS49.far (hne := NB193_194.out) | refine IsS49.far ?_ NB193_210.out _ | apply IsS49.far (hne := NB193_210.out) | refine IsS49.far ?_ NB193_220.out _ | apply IsS49.far (hne := NB193_220.out)) | exact HI193.out)⟩, ⟨by repeat (first | (with_reducible first | exact HB.out | apply below_alloc | apply pw_below_drewN | apply below_drew1 | refine below_set ?_ (IsS49.ge HI193.out) | refine below_set ?_ GE194.out | refine below_set ?_ GE210.out | refine below_set ?_ GE220.out) | exact HB.out)⟩⟩
                                            · rw [if_neg c51] at H
                                              have c51b0 : (!(t201 == t211) || (!(t202 == t212) || (!(t203 == t213) || (!(t204.toList == t214.toList))))) = false := by simpa using c51
                                              clear c51
                                              (first | rw [c51b0] | (simp only [i64_w, i32_w]; rw [c51b0]) | skip)
                                              by_cases c59 : t205 = true
                                              · subst c59
                                                have H1 : (if t215 = true then (bywashlaw8_SplitPlays.j6 k6 l2 x16_6 l1 (l1.length : Int) x76_3 (t206 != t216) t207 t208 t209 t217 t218 t219) else (bywashlaw8_SplitPlays.j6 k6 l2 x16_6 l1 (l1.length : Int) x76_3 true t207 t208 t209 t217 t218 t219)) = some r := by rw [if_pos rfl] at H; exact H
                                                clear H
                                                have H := H1
                                                clear H1
                                                by_cases c60 : t215 = true
                                                · subst c60
                                                  have H1 : (bywashlaw8_SplitPlays.j6 k6 l2 x16_6 l1 (l1.length : Int) x76_3 (t206 != t216) t207 t208 t209 t217 t218 t219) = some r := by rw [if_pos rfl] at H; exact H
                                                  clear H
                                                  have H := H1
                                                  clear H1
                                                  have H' := Aside0.mk H
                                                  clear H
                                                  have hnb61 := NB210_194.out
                                                  have hnc61 := NB194_210.out
                                                  have hnb62 := NB210_220.out
                                                  have hnc62 := NB220_210.out
                                                  have hnb63 := NB210_193.out
                                                  have hnc63 := NB193_210.out
                                                  have hcz64_0 : w46.cell? ⟨gb210, 0, none⟩ = some (.int .i64 t201) := (blk_cell BK210.out 0).trans rfl
                                                  have hcz64_1 : w46.cell? ⟨gb210, 1, none⟩ = some (.int .i64 t202) := (blk_cell BK210.out 1).trans rfl
                                                  have hcz64_2 : w46.cell? ⟨gb210, 2, none⟩ = some (.int .i64 t203) := (blk_cell BK210.out 2).trans rfl
                                                  have hcz64_3 : w46.cell? ⟨gb210, 3, none⟩ = some (.string t204) := (blk_cell BK210.out 3).trans rfl
                                                  have hfz64_0 := blk_frozen BK210.out 0
                                                  have hfz64_1 := blk_frozen BK210.out 1
                                                  have hfz64_2 := blk_frozen BK210.out 2
                                                  have hfz64_3 := blk_frozen BK210.out 3
                                                  have hnb65 := NB220_194.out
                                                  have hnc65 := NB194_220.out
                                                  have hnb66 := NB220_193.out
                                                  have hnc66 := NB193_220.out
                                                  have hcz67_0 : w46.cell? ⟨gb220, 0, none⟩ = some (.int .i64 0) := (blk_cell BK220.out 0).trans rfl
                                                  have hcz67_1 : w46.cell? ⟨gb220, 1, none⟩ = some (.int .i64 0) := (blk_cell BK220.out 1).trans rfl
                                                  have hcz67_2 : w46.cell? ⟨gb220, 2, none⟩ = some (.int .i64 0) := (blk_cell BK220.out 2).trans rfl
                                                  have hcz67_3 : w46.cell? ⟨gb220, 3, none⟩ = some (.string (⟨#[]⟩ : ByteArray)) := (blk_cell BK220.out 3).trans rfl
                                                  have hfz67_0 := blk_frozen BK220.out 0
                                                  have hfz67_1 := blk_frozen BK220.out 1
                                                  have hfz67_2 := blk_frozen BK220.out 2
                                                  have hfz67_3 := blk_frozen BK220.out 3
                                                  go_wp2
                                                  go_meet
                                                  case rel => exact ⟨_, ((t206 != t216)), (by first | rfl | (simp; done) | (simp [*]; done)), H', ⟨by have := HJ3.out; have := HJ11.out; have := HK3.out; have := HJ20.out; have := HJ29.out; have := HK6.out; first | omega | exact Nat.le_refl _⟩, ⟨by (with_reducible repeat (first | refine blk_drewN ?_ _ | refine blk_drew ?_ | refine blk_alloc ?_ _)); refine blk_far ?_ NB194_220.out _; (with_reducible repeat (first | refine blk_drewN ?_ _ | refine blk_drew ?_ | refine blk_alloc ?_ _)); refine blk_far ?_ NB194_220.out _; (with_reducible repeat (first | refine blk_drewN ?_ _ | refine blk_drew ?_ | refine blk_alloc ?_ _)); refine blk_far ?_ NB194_220.out _; (with_reducible repeat (first | refine blk_drewN ?_ _ | refine blk_drew ?_ | refine blk_alloc ?_ _)); refine blk_far ?_ NB194_220.out _; (with_reducible repeat (first | refine blk_drewN ?_ _ | refine blk_drew ?_ | refine blk_alloc ?_ _)); exact BK194.out⟩, ⟨by (with_reducible repeat (first | refine blk_drewN ?_ _ | refine blk_drew ?_ | refine blk_alloc ?_ _)); refine blk_far ?_ NB210_220.out _; (with_reducible repeat (first | refine blk_drewN ?_ _ | refine blk_drew ?_ | refine blk_alloc ?_ _)); refine blk_far ?_ NB210_220.out _; (with_reducible repeat (first | refine blk_drewN ?_ _ | refine blk_drew ?_ | refine blk_alloc ?_ _)); refine blk_far ?_ NB210_220.out _; (with_reducible repeat (first | refine blk_drewN ?_ _ | refine blk_drew ?_ | refine blk_alloc ?_ _)); refine blk_far ?_ NB210_220.out _; (with_reducible repeat (first | refine blk_drewN ?_ _ | refine blk_drew ?_ | refine blk_alloc ?_ _)); exact BK210.out⟩, ⟨by (with_reducible repeat (first | refine blk_drewN ?_ _ | refine blk_drew ?_ | refine blk_alloc ?_ _)); refine blk_put (cs := #[.int .i64 t211, .int .i64 t212, .int .i64 t213, .string (⟨#[]⟩ : ByteArray)]) ?_ 3 _ rfl; (with_reducible repeat (first | refine blk_drewN ?_ _ | refine blk_drew ?_ | refine blk_alloc ?_ _)); refine blk_put (cs := #[.int .i64 t211, .int .i64 t212, .int .i64 0, .string (⟨#[]⟩ : ByteArray)]) ?_ 2 _ rfl; (with_reducible repeat (first | refine blk_drewN ?_ _ | refine blk_drew ?_ | refine blk_alloc ?_ _)); refine blk_put (cs := #[.int .i64 t211, .int .i64 0, .int .i64 0, .string (⟨#[]⟩ : ByteArray)]) ?_ 1 _ rfl; (with_reducible repeat (first | refine blk_drewN ?_ _ | refine blk_drew ?_ | refine blk_alloc ?_ _)); refine blk_put (cs := #[.int .i64 0, .int .i64 0, .int .i64 0, .string (⟨#[]⟩ : ByteArray)]) ?_ 0 _ rfl; (with_reducible repeat (first | refine blk_drewN ?_ _ | refine blk_drew ?_ | refine blk_alloc ?_ _)); exact BK220.out⟩, ⟨by repeat (first | (with_reducible first | exact HI193.out | apply IsS49.alloc | apply IsS49.drewN | apply IsS49.drew | apply IsS49.set_0 | apply IsS49.set_1 | apply IsS49.set_2 | refine IsS49.far ?_ NB193_194.out _ | apply IsS49.far (hne := NB193_194.out) | refine IsS49.far ?_ NB193_210.out _ | apply IsS49.far (hne := NB193_210.out) | refine IsS49.far ?_ NB193_220.out _ | apply IsS49.far (hne := NB193_220.out)) | exact HI193.out)⟩, ⟨by repeat (first | (with_reducible first | exact HB.out | apply below_alloc | apply pw_below_drewN | apply below_drew1 | refine below_set ?_ (IsS49.ge HI193.out) | refine below_set ?_ GE194.out | refine below_set ?_ GE210.out | refine below_set ?_ GE220.out) | exact HB.out)⟩⟩
                                                · replace c60 := Bool.eq_false_iff.mpr c60
                                                  subst c60
                                                  have H1 : (bywashlaw8_SplitPlays.j6 k6 l2 x16_6 l1 (l1.length : Int) x76_3 true t207 t208 t209 t217 t218 t219) = some r := by rw [if_neg (show ¬ (false = true) by decide)] at H; exact H
                                                  clear H
                                                  have H := H1
                                                  clear H1
                                                  have H' := Aside0.mk H
                                                  clear H
                                                  have hnb68 := NB210_194.out
                                                  have hnc68 := NB194_210.out
                                                  have hnb69 := NB210_220.out
                                                  have hnc69 := NB220_210.out
                                                  have hnb70 := NB210_193.out
                                                  have hnc70 := NB193_210.out
                                                  have hcz71_0 : w46.cell? ⟨gb210, 0, none⟩ = some (.int .i64 t201) := (blk_cell BK210.out 0).trans rfl
                                                  have hcz71_1 : w46.cell? ⟨gb210, 1, none⟩ = some (.int .i64 t202) := (blk_cell BK210.out 1).trans rfl
                                                  have hcz71_2 : w46.cell? ⟨gb210, 2, none⟩ = some (.int .i64 t203) := (blk_cell BK210.out 2).trans rfl
                                                  have hcz71_3 : w46.cell? ⟨gb210, 3, none⟩ = some (.string t204) := (blk_cell BK210.out 3).trans rfl
                                                  have hfz71_0 := blk_frozen BK210.out 0
                                                  have hfz71_1 := blk_frozen BK210.out 1
                                                  have hfz71_2 := blk_frozen BK210.out 2
                                                  have hfz71_3 := blk_frozen BK210.out 3
                                                  have hnb72 := NB220_194.out
                                                  have hnc72 := NB194_220.out
                                                  have hnb73 := NB220_193.out
                                                  have hnc73 := NB193_220.out
                                                  have hcz74_0 : w46.cell? ⟨gb220, 0, none⟩ = some (.int .i64 0) := (blk_cell BK220.out 0).trans rfl
                                                  have hcz74_1 : w46.cell? ⟨gb220, 1, none⟩ = some (.int .i64 0) := (blk_cell BK220.out 1).trans rfl
                                                  have hcz74_2 : w46.cell? ⟨gb220, 2, none⟩ = some (.int .i64 0) := (blk_cell BK220.out 2).trans rfl
                                                  have hcz74_3 : w46.cell? ⟨gb220, 3, none⟩ = some (.string (⟨#[]⟩ : ByteArray)) := (blk_cell BK220.out 3).trans rfl
                                                  have hfz74_0 := blk_frozen BK220.out 0
                                                  have hfz74_1 := blk_frozen BK220.out 1
                                                  have hfz74_2 := blk_frozen BK220.out 2
                                                  have hfz74_3 := blk_frozen BK220.out 3
                                                  go_wp2
                                                  go_meet
                                                  case rel => exact ⟨_, (true), (by first | rfl | (simp; done) | (simp [*]; done)), H', ⟨by have := HJ3.out; have := HJ11.out; have := HK3.out; have := HJ20.out; have := HJ29.out; have := HK6.out; first | omega | exact Nat.le_refl _⟩, ⟨by (with_reducible repeat (first | refine blk_drewN ?_ _ | refine blk_drew ?_ | refine blk_alloc ?_ _)); refine blk_far ?_ NB194_220.out _; (with_reducible repeat (first | refine blk_drewN ?_ _ | refine blk_drew ?_ | refine blk_alloc ?_ _)); refine blk_far ?_ NB194_220.out _; (with_reducible repeat (first | refine blk_drewN ?_ _ | refine blk_drew ?_ | refine blk_alloc ?_ _)); refine blk_far ?_ NB194_220.out _; (with_reducible repeat (first | refine blk_drewN ?_ _ | refine blk_drew ?_ | refine blk_alloc ?_ _)); refine blk_far ?_ NB194_220.out _; (with_reducible repeat (first | refine blk_drewN ?_ _ | refine blk_drew ?_ | refine blk_alloc ?_ _)); exact BK194.out⟩, ⟨by (with_reducible repeat (first | refine blk_drewN ?_ _ | refine blk_drew ?_ | refine blk_alloc ?_ _)); refine blk_far ?_ NB210_220.out _; (with_reducible repeat (first | refine blk_drewN ?_ _ | refine blk_drew ?_ | refine blk_alloc ?_ _)); refine blk_far ?_ NB210_220.out _; (with_reducible repeat (first | refine blk_drewN ?_ _ | refine blk_drew ?_ | refine blk_alloc ?_ _)); refine blk_far ?_ NB210_220.out _; (with_reducible repeat (first | refine blk_drewN ?_ _ | refine blk_drew ?_ | refine blk_alloc ?_ _)); refine blk_far ?_ NB210_220.out _; (with_reducible repeat (first | refine blk_drewN ?_ _ | refine blk_drew ?_ | refine blk_alloc ?_ _)); exact BK210.out⟩, ⟨by (with_reducible repeat (first | refine blk_drewN ?_ _ | refine blk_drew ?_ | refine blk_alloc ?_ _)); refine blk_put (cs := #[.int .i64 t211, .int .i64 t212, .int .i64 t213, .string (⟨#[]⟩ : ByteArray)]) ?_ 3 _ rfl; (with_reducible repeat (first | refine blk_drewN ?_ _ | refine blk_drew ?_ | refine blk_alloc ?_ _)); refine blk_put (cs := #[.int .i64 t211, .int .i64 t212, .int .i64 0, .string (⟨#[]⟩ : ByteArray)]) ?_ 2 _ rfl; (with_reducible repeat (first | refine blk_drewN ?_ _ | refine blk_drew ?_ | refine blk_alloc ?_ _)); refine blk_put (cs := #[.int .i64 t211, .int .i64 0, .int .i64 0, .string (⟨#[]⟩ : ByteArray)]) ?_ 1 _ rfl; (with_reducible repeat (first | refine blk_drewN ?_ _ | refine blk_drew ?_ | refine blk_alloc ?_ _)); refine blk_put (cs := #[.int .i64 0, .int .i64 0, .int .i64 0, .string (⟨#[]⟩ : ByteArray)]) ?_ 0 _ rfl; (with_reducible repeat (first | refine blk_drewN ?_ _ | refine blk_drew ?_ | refine blk_alloc ?_ _)); exact BK220.out⟩, ⟨by repeat (first | (with_reducible first | exact HI193.out | apply IsS49.alloc | apply IsS49.drewN | apply IsS49.drew | apply IsS49.set_0 | apply IsS49.set_1 | apply IsS49.set_2 | refine IsS49.far ?_ NB193_194.out _ | apply IsS49.far (hne := NB193_194.out) | refine IsS49.far ?_ NB193_210.out _ | apply IsS49.far (hne := NB193_210.out) | refine IsS49.far ?_ NB193_220.out _ | apply IsS49.far (hne := NB193_220.out)) | exact HI193.out)⟩, ⟨by repeat (first | (with_reducible first | exact HB.out | apply below_alloc | apply pw_below_drewN | apply below_drew1 | refine below_set ?_ (IsS49.ge HI193.out) | refine below_set ?_ GE194.out | refine below_set ?_ GE210.out | refine below_set ?_ GE220.out) | exact HB.out)⟩⟩
                                              · replace c59 := Bool.eq_false_iff.mpr c59
                                                subst c59
                                                have H1 : (if t215 = true then (bywashlaw8_SplitPlays.j6 k6 l2 x16_6 l1 (l1.length : Int) x76_3 true t207 t208 t209 t217 t218 t219) else (bywashlaw8_SplitPlays.j6 k6 l2 x16_6 l1 (l1.length : Int) x76_3 (t206 != t216) t207 t208 t209 t217 t218 t219)) = some r := by rw [if_neg (show ¬ (false = true) by decide)] at H; exact H
                                                clear H
                                                have H := H1
                                                clear H1
                                                by_cases c75 : t215 = true
                                                · subst c75
                                                  have H1 : (bywashlaw8_SplitPlays.j6 k6 l2 x16_6 l1 (l1.length : Int) x76_3 true t207 t208 t209 t217 t218 t219) = some r := by rw [if_pos rfl] at H; exact H
                                                  clear H
                                                  have H := H1
                                                  clear H1
                                                  have H' := Aside0.mk H
                                                  clear H
                                                  have hnb76 := NB210_194.out
                                                  have hnc76 := NB194_210.out
                                                  have hnb77 := NB210_220.out
                                                  have hnc77 := NB220_210.out
                                                  have hnb78 := NB210_193.out
                                                  have hnc78 := NB193_210.out
                                                  have hcz79_0 : w46.cell? ⟨gb210, 0, none⟩ = some (.int .i64 t201) := (blk_cell BK210.out 0).trans rfl
                                                  have hcz79_1 : w46.cell? ⟨gb210, 1, none⟩ = some (.int .i64 t202) := (blk_cell BK210.out 1).trans rfl
                                                  have hcz79_2 : w46.cell? ⟨gb210, 2, none⟩ = some (.int .i64 t203) := (blk_cell BK210.out 2).trans rfl
                                                  have hcz79_3 : w46.cell? ⟨gb210, 3, none⟩ = some (.string t204) := (blk_cell BK210.out 3).trans rfl
                                                  have hfz79_0 := blk_frozen BK210.out 0
                                                  have hfz79_1 := blk_frozen BK210.out 1
                                                  have hfz79_2 := blk_frozen BK210.out 2
                                                  have hfz79_3 := blk_frozen BK210.out 3
                                                  have hnb80 := NB220_194.out
                                                  have hnc80 := NB194_220.out
                                                  have hnb81 := NB220_193.out
                                                  have hnc81 := NB193_220.out
                                                  have hcz82_0 : w46.cell? ⟨gb220, 0, none⟩ = some (.int .i64 0) := (blk_cell BK220.out 0).trans rfl
                                                  have hcz82_1 : w46.cell? ⟨gb220, 1, none⟩ = some (.int .i64 0) := (blk_cell BK220.out 1).trans rfl
                                                  have hcz82_2 : w46.cell? ⟨gb220, 2, none⟩ = some (.int .i64 0) := (blk_cell BK220.out 2).trans rfl
                                                  have hcz82_3 : w46.cell? ⟨gb220, 3, none⟩ = some (.string (⟨#[]⟩ : ByteArray)) := (blk_cell BK220.out 3).trans rfl
                                                  have hfz82_0 := blk_frozen BK220.out 0
                                                  have hfz82_1 := blk_frozen BK220.out 1
                                                  have hfz82_2 := blk_frozen BK220.out 2
                                                  have hfz82_3 := blk_frozen BK220.out 3
                                                  go_wp2
                                                  go_meet
                                                  case rel => exact ⟨_, (true), (by first | rfl | (simp; done) | (simp [*]; done)), H', ⟨by have := HJ3.out; have := HJ11.out; have := HK3.out; have := HJ20.out; have := HJ29.out; have := HK6.out; first | omega | exact Nat.le_refl _⟩, ⟨by (with_reducible repeat (first | refine blk_drewN ?_ _ | refine blk_drew ?_ | refine blk_alloc ?_ _)); refine blk_far ?_ NB194_220.out _; (with_reducible repeat (first | refine blk_drewN ?_ _ | refine blk_drew ?_ | refine blk_alloc ?_ _)); refine blk_far ?_ NB194_220.out _; (with_reducible repeat (first | refine blk_drewN ?_ _ | refine blk_drew ?_ | refine blk_alloc ?_ _)); refine blk_far ?_ NB194_220.out _; (with_reducible repeat (first | refine blk_drewN ?_ _ | refine blk_drew ?_ | refine blk_alloc ?_ _)); refine blk_far ?_ NB194_220.out _; (with_reducible repeat (first | refine blk_drewN ?_ _ | refine blk_drew ?_ | refine blk_alloc ?_ _)); exact BK194.out⟩, ⟨by (with_reducible repeat (first | refine blk_drewN ?_ _ | refine blk_drew ?_ | refine blk_alloc ?_ _)); refine blk_far ?_ NB210_220.out _; (with_reducible repeat (first | refine blk_drewN ?_ _ | refine blk_drew ?_ | refine blk_alloc ?_ _)); refine blk_far ?_ NB210_220.out _; (with_reducible repeat (first | refine blk_drewN ?_ _ | refine blk_drew ?_ | refine blk_alloc ?_ _)); refine blk_far ?_ NB210_220.out _; (with_reducible repeat (first | refine blk_drewN ?_ _ | refine blk_drew ?_ | refine blk_alloc ?_ _)); refine blk_far ?_ NB210_220.out _; (with_reducible repeat (first | refine blk_drewN ?_ _ | refine blk_drew ?_ | refine blk_alloc ?_ _)); exact BK210.out⟩, ⟨by (with_reducible repeat (first | refine blk_drewN ?_ _ | refine blk_drew ?_ | refine blk_alloc ?_ _)); refine blk_put (cs := #[.int .i64 t211, .int .i64 t212, .int .i64 t213, .string (⟨#[]⟩ : ByteArray)]) ?_ 3 _ rfl; (with_reducible repeat (first | refine blk_drewN ?_ _ | refine blk_drew ?_ | refine blk_alloc ?_ _)); refine blk_put (cs := #[.int .i64 t211, .int .i64 t212, .int .i64 0, .string (⟨#[]⟩ : ByteArray)]) ?_ 2 _ rfl; (with_reducible repeat (first | refine blk_drewN ?_ _ | refine blk_drew ?_ | refine blk_alloc ?_ _)); refine blk_put (cs := #[.int .i64 t211, .int .i64 0, .int .i64 0, .string (⟨#[]⟩ : ByteArray)]) ?_ 1 _ rfl; (with_reducible repeat (first | refine blk_drewN ?_ _ | refine blk_drew ?_ | refine blk_alloc ?_ _)); refine blk_put (cs := #[.int .i64 0, .int .i64 0, .int .i64 0, .string (⟨#[]⟩ : ByteArray)]) ?_ 0 _ rfl; (with_reducible repeat (first | refine blk_drewN ?_ _ | refine blk_drew ?_ | refine blk_alloc ?_ _)); exact BK220.out⟩, ⟨by repeat (first | (with_reducible first | exact HI193.out | apply IsS49.alloc | apply IsS49.drewN | apply IsS49.drew | apply IsS49.set_0 | apply IsS49.set_1 | apply IsS49.set_2 | refine IsS49.far ?_ NB193_194.out _ | apply IsS49.far (hne := NB193_194.out) | refine IsS49.far ?_ NB193_210.out _ | apply IsS49.far (hne := NB193_210.out) | refine IsS49.far ?_ NB193_220.out _ | apply IsS49.far (hne := NB193_220.out)) | exact HI193.out)⟩, ⟨by repeat (first | (with_reducible first | exact HB.out | apply below_alloc | apply pw_below_drewN | apply below_drew1 | refine below_set ?_ (IsS49.ge HI193.out) | refine below_set ?_ GE194.out | refine below_set ?_ GE210.out | refine below_set ?_ GE220.out) | exact HB.out)⟩⟩
                                                · replace c75 := Bool.eq_false_iff.mpr c75
                                                  subst c75
                                                  have H1 : (bywashlaw8_SplitPlays.j6 k6 l2 x16_6 l1 (l1.length : Int) x76_3 (t206 != t216) t207 t208 t209 t217 t218 t219) = some r := by rw [if_neg (show ¬ (false = true) by decide)] at H; exact H
                                                  clear H
                                                  have H := H1
                                                  clear H1
                                                  have H' := Aside0.mk H
                                                  clear H
                                                  have hnb83 := NB210_194.out
                                                  have hnc83 := NB194_210.out
                                                  have hnb84 := NB210_220.out
                                                  have hnc84 := NB220_210.out
                                                  have hnb85 := NB210_193.out
                                                  have hnc85 := NB193_210.out
                                                  have hcz86_0 : w46.cell? ⟨gb210, 0, none⟩ = some (.int .i64 t201) := (blk_cell BK210.out 0).trans rfl
                                                  have hcz86_1 : w46.cell? ⟨gb210, 1, none⟩ = some (.int .i64 t202) := (blk_cell BK210.out 1).trans rfl
                                                  have hcz86_2 : w46.cell? ⟨gb210, 2, none⟩ = some (.int .i64 t203) := (blk_cell BK210.out 2).trans rfl
                                                  have hcz86_3 : w46.cell? ⟨gb210, 3, none⟩ = some (.string t204) := (blk_cell BK210.out 3).trans rfl
                                                  have hfz86_0 := blk_frozen BK210.out 0
                                                  have hfz86_1 := blk_frozen BK210.out 1
                                                  have hfz86_2 := blk_frozen BK210.out 2
                                                  have hfz86_3 := blk_frozen BK210.out 3
                                                  have hnb87 := NB220_194.out
                                                  have hnc87 := NB194_220.out
                                                  have hnb88 := NB220_193.out
                                                  have hnc88 := NB193_220.out
                                                  have hcz89_0 : w46.cell? ⟨gb220, 0, none⟩ = some (.int .i64 0) := (blk_cell BK220.out 0).trans rfl
                                                  have hcz89_1 : w46.cell? ⟨gb220, 1, none⟩ = some (.int .i64 0) := (blk_cell BK220.out 1).trans rfl
                                                  have hcz89_2 : w46.cell? ⟨gb220, 2, none⟩ = some (.int .i64 0) := (blk_cell BK220.out 2).trans rfl
                                                  have hcz89_3 : w46.cell? ⟨gb220, 3, none⟩ = some (.string (⟨#[]⟩ : ByteArray)) := (blk_cell BK220.out 3).trans rfl
                                                  have hfz89_0 := blk_frozen BK220.out 0
                                                  have hfz89_1 := blk_frozen BK220.out 1
                                                  have hfz89_2 := blk_frozen BK220.out 2
                                                  have hfz89_3 := blk_frozen BK220.out 3
                                                  go_wp2
                                                  go_meet
                                                  case rel => exact ⟨_, ((t206 != t216)), (by first | rfl | (simp; done) | (simp [*]; done)), H', ⟨by have := HJ3.out; have := HJ11.out; have := HK3.out; have := HJ20.out; have := HJ29.out; have := HK6.out; first | omega | exact Nat.le_refl _⟩, ⟨by (with_reducible repeat (first | refine blk_drewN ?_ _ | refine blk_drew ?_ | refine blk_alloc ?_ _)); refine blk_far ?_ NB194_220.out _; (with_reducible repeat (first | refine blk_drewN ?_ _ | refine blk_drew ?_ | refine blk_alloc ?_ _)); refine blk_far ?_ NB194_220.out _; (with_reducible repeat (first | refine blk_drewN ?_ _ | refine blk_drew ?_ | refine blk_alloc ?_ _)); refine blk_far ?_ NB194_220.out _; (with_reducible repeat (first | refine blk_drewN ?_ _ | refine blk_drew ?_ | refine blk_alloc ?_ _)); refine blk_far ?_ NB194_220.out _; (with_reducible repeat (first | refine blk_drewN ?_ _ | refine blk_drew ?_ | refine blk_alloc ?_ _)); exact BK194.out⟩, ⟨by (with_reducible repeat (first | refine blk_drewN ?_ _ | refine blk_drew ?_ | refine blk_alloc ?_ _)); refine blk_far ?_ NB210_220.out _; (with_reducible repeat (first | refine blk_drewN ?_ _ | refine blk_drew ?_ | refine blk_alloc ?_ _)); refine blk_far ?_ NB210_220.out _; (with_reducible repeat (first | refine blk_drewN ?_ _ | refine blk_drew ?_ | refine blk_alloc ?_ _)); refine blk_far ?_ NB210_220.out _; (with_reducible repeat (first | refine blk_drewN ?_ _ | refine blk_drew ?_ | refine blk_alloc ?_ _)); refine blk_far ?_ NB210_220.out _; (with_reducible repeat (first | refine blk_drewN ?_ _ | refine blk_drew ?_ | refine blk_alloc ?_ _)); exact BK210.out⟩, ⟨by (with_reducible repeat (first | refine blk_drewN ?_ _ | refine blk_drew ?_ | refine blk_alloc ?_ _)); refine blk_put (cs := #[.int .i64 t211, .int .i64 t212, .int .i64 t213, .string (⟨#[]⟩ : ByteArray)]) ?_ 3 _ rfl; (with_reducible repeat (first | refine blk_drewN ?_ _ | refine blk_drew ?_ | refine blk_alloc ?_ _)); refine blk_put (cs := #[.int .i64 t211, .int .i64 t212, .int .i64 0, .string (⟨#[]⟩ : ByteArray)]) ?_ 2 _ rfl; (with_reducible repeat (first | refine blk_drewN ?_ _ | refine blk_drew ?_ | refine blk_alloc ?_ _)); refine blk_put (cs := #[.int .i64 t211, .int .i64 0, .int .i64 0, .string (⟨#[]⟩ : ByteArray)]) ?_ 1 _ rfl; (with_reducible repeat (first | refine blk_drewN ?_ _ | refine blk_drew ?_ | refine blk_alloc ?_ _)); refine blk_put (cs := #[.int .i64 0, .int .i64 0, .int .i64 0, .string (⟨#[]⟩ : ByteArray)]) ?_ 0 _ rfl; (with_reducible repeat (first | refine blk_drewN ?_ _ | refine blk_drew ?_ | refine blk_alloc ?_ _)); exact BK220.out⟩, ⟨by repeat (first | (with_reducible first | exact HI193.out | apply IsS49.alloc | apply IsS49.drewN | apply IsS49.drew | apply IsS49.set_0 | apply IsS49.set_1 | apply IsS49.set_2 | refine IsS49.far ?_ NB193_194.out _ | apply IsS49.far (hne := NB193_194.out) | refine IsS49.far ?_ NB193_210.out _ | apply IsS49.far (hne := NB193_210.out) | refine IsS49.far ?_ NB193_220.out _ | apply IsS49.far (hne := NB193_220.out)) | exact HI193.out)⟩, ⟨by repeat (first | (with_reducible first | exact HB.out | apply below_alloc | apply pw_below_drewN | apply below_drew1 | refine below_set ?_ (IsS49.ge HI193.out) | refine below_set ?_ GE194.out | refine below_set ?_ GE210.out | refine below_set ?_ GE220.out) | exact HB.out)⟩⟩
                                          case rest =>
                                            clear HC39
                                            try clear c1
                                            try clear p1
                                            try clear q1
                                            try clear hx1
                                            try clear c2
                                            try clear p2
                                            try clear q2
                                            try clear hx2
                                            try clear c3
                                            try clear c4
                                            try clear c5
                                            try clear c5b0
                                            try clear c5b1
                                            try clear c6
                                            try clear c7
                                            try clear c8
                                            try clear c9
                                            try clear c10
                                            try clear c11
                                            try clear c12
                                            try clear c14
                                            try clear c14b0
                                            try clear c15
                                            try clear c17
                                            try clear c17b0
                                            try clear c18
                                            try clear c18b0
                                            try clear c19
                                            try clear c19b0
                                            try clear p19
                                            try clear q19
                                            try clear hx19
                                            try clear c20
                                            try clear c20b0
                                            try clear c20b1
                                            try clear p20
                                            try clear q20
                                            try clear hx20
                                            try clear c22
                                            try clear c24
                                            try clear c25
                                            try clear c25b0
                                            try clear c25b1
                                            try clear c25b2
                                            try clear c26
                                            try clear c29
                                            try clear c29b0
                                            try clear c29b1
                                            try clear c32
                                            try clear c32b0
                                            try clear c33
                                            try clear c33b0
                                            try clear c36
                                            try clear c36b0
                                            try clear c42
                                            try clear c43
                                            try clear c47
                                            try clear c48
                                            try clear c49
                                            try clear c51
                                            try clear c51b0
                                            try clear c52
                                            try clear c53
                                            try clear c54
                                            try clear c56
                                            try clear c57
                                            try clear c59
                                            try clear c60
                                            try clear c61
                                            try clear c62
                                            try clear c63
                                            try clear c65
                                            try clear c66
                                            try clear c68
                                            try clear c69
                                            try clear c70
                                            try clear c72
                                            try clear c73
                                            try clear c75
                                            try clear c76
                                            try clear c77
                                            try clear c78
                                            try clear c80
                                            try clear c81
                                            try clear c83
                                            try clear c84
                                            try clear c85
                                            try clear c87
                                            try clear c88
                                            try clear hcz23_0
                                            try clear hcz23_1
                                            try clear hcz23_2
                                            try clear hcz27_0
                                            try clear hcz27_1
                                            try clear hcz27_2
                                            try clear hcz44_0
                                            try clear hcz44_1
                                            try clear hcz44_2
                                            try clear hcz44_3
                                            try clear hcz50_0
                                            try clear hcz50_1
                                            try clear hcz50_2
                                            try clear hcz50_3
                                            try clear hcz55_0
                                            try clear hcz55_1
                                            try clear hcz55_2
                                            try clear hcz55_3
                                            try clear hcz58_0
                                            try clear hcz58_1
                                            try clear hcz58_2
                                            try clear hcz58_3
                                            try clear hcz64_0
                                            try clear hcz64_1
                                            try clear hcz64_2
                                            try clear hcz64_3
                                            try clear hcz67_0
                                            try clear hcz67_1
                                            try clear hcz67_2
                                            try clear hcz67_3
                                            try clear hcz71_0
                                            try clear hcz71_1
                                            try clear hcz71_2
                                            try clear hcz71_3
                                            try clear hcz74_0
                                            try clear hcz74_1
                                            try clear hcz74_2
                                            try clear hcz74_3
                                            try clear hcz79_0
                                            try clear hcz79_1
                                            try clear hcz79_2
                                            try clear hcz79_3
                                            try clear hcz82_0
                                            try clear hcz82_1
                                            try clear hcz82_2
                                            try clear hcz82_3
                                            try clear hcz86_0
                                            try clear hcz86_1
                                            try clear hcz86_2
                                            try clear hcz86_3
                                            try clear hcz89_0
                                            try clear hcz89_1
                                            try clear hcz89_2
                                            try clear hcz89_3
                                            try clear hfz23_0
                                            try clear hfz23_1
                                            try clear hfz23_2
                                            try clear hfz27_0
                                            try clear hfz27_1
                                            try clear hfz27_2
                                            try clear hfz44_0
                                            try clear hfz44_1
                                            try clear hfz44_2
                                            try clear hfz44_3
                                            try clear hfz50_0
                                            try clear hfz50_1
                                            try clear hfz50_2
                                            try clear hfz50_3
                                            try clear hfz55_0
                                            try clear hfz55_1
                                            try clear hfz55_2
                                            try clear hfz55_3
                                            try clear hfz58_0
                                            try clear hfz58_1
                                            try clear hfz58_2
                                            try clear hfz58_3
                                            try clear hfz64_0
                                            try clear hfz64_1
                                            try clear hfz64_2
                                            try clear hfz64_3
                                            try clear hfz67_0
                                            try clear hfz67_1
                                            try clear hfz67_2
                                            try clear hfz67_3
                                            try clear hfz71_0
                                            try clear hfz71_1
                                            try clear hfz71_2
                                            try clear hfz71_3
                                            try clear hfz74_0
                                            try clear hfz74_1
                                            try clear hfz74_2
                                            try clear hfz74_3
                                            try clear hfz79_0
                                            try clear hfz79_1
                                            try clear hfz79_2
                                            try clear hfz79_3
                                            try clear hfz82_0
                                            try clear hfz82_1
                                            try clear hfz82_2
                                            try clear hfz82_3
                                            try clear hfz86_0
                                            try clear hfz86_1
                                            try clear hfz86_2
                                            try clear hfz86_3
                                            try clear hfz89_0
                                            try clear hfz89_1
                                            try clear hfz89_2
                                            try clear hfz89_3
                                            try clear hx195_0
                                            try clear hx200_0
                                            try clear p1
                                            try clear p19
                                            try clear p195
                                            try clear p2
                                            try clear p20
                                            try clear p200
                                            try clear q1
                                            try clear q19
                                            try clear q195
                                            try clear q2
                                            try clear q20
                                            try clear q200
                                            obtain ⟨kq, x141_38, rfl, HA, HJ38, BK194, BK210, BK220, HI193, HB⟩ := hcut
                                            cases kq with
                                            | zero => exact absurd HA.out (by simp [bywashlaw8_SplitPlays.j6])
                                            | succ kj38 =>
                                              have H := HA.out
                                              clear HA
                                              simp only [bywashlaw8_SplitPlays.j6] at H
                                              by_cases c90 : x141_38 = true
                                              · subst c90
                                                have H1 : (some false) = some r := by rw [if_pos rfl] at H; exact H
                                                clear H
                                                have H := H1
                                                clear H1
                                                obtain rfl := Option.some.inj H
                                                go_wp2
                                                go_ret
                                                exact ⟨by first | rfl | (simp [errW_none, errW_some] <;> rfl) | (simp [*, errW_none, errW_some] <;> rfl), by repeat (first | (with_reducible first | exact HB.out | apply below_alloc | apply pw_below_drewN | apply below_drew1 | refine below_set ?_ (IsS49.ge HI193.out) | refine below_set ?_ GE194.out | refine below_set ?_ GE210.out | refine below_set ?_ GE220.out) | exact HB.out)⟩
                                              · replace c90 := Bool.eq_false_iff.mpr c90
                                                subst c90
                                                have H1 : (bywashlaw8_SplitPlays.l1 kj38 l2 (wrap64 (x16_6 - 1)) l1 (l1.length : Int) x76_3 t207 t208 t209 t217 t218 t219) = some r := by rw [if_neg (show ¬ (false = true) by decide)] at H; exact H
                                                clear H
                                                have H := H1
                                                clear H1
                                                have H' := Aside0.mk H
                                                clear H
                                                go_wp2
                                                go_roundg kj38
                                                case measure => have := HJ3.out; have := HJ11.out; have := HK3.out; have := HJ20.out; have := HJ29.out; have := HK6.out; have := HJ38.out; omega
                                                case rel => exact ⟨(wrap64 (x16_6 - 1)), (t207), (t208), (t209), (t217), (t218), (t219), (by first | rfl | (simp; done) | (simp [*]; done)), H', ⟨by have := HJ3.out; have := HJ11.out; have := HK3.out; have := HJ20.out; have := HJ29.out; have := HK6.out; have := HJ38.out; omega⟩, ⟨by (with_reducible repeat (first | refine blk_drewN ?_ _ | refine blk_drew ?_ | refine blk_alloc ?_ _)); exact BK194.out⟩, ⟨by repeat (first | (with_reducible first | exact HI193.out | apply IsS49.alloc | apply IsS49.drewN | apply IsS49.drew | apply IsS49.set_0 | apply IsS49.set_1 | apply IsS49.set_2 | refine IsS49.far ?_ NB193_194.out _ | apply IsS49.far (hne := NB193_194.out) | refine IsS49.far ?_ NB193_210.out _ | apply IsS49.far (hne := NB193_210.out) | refine IsS49.far ?_ NB193_220.out _ | apply IsS49.far (hne := NB193_220.out)) | exact HI193.out)⟩, ⟨by repeat (first | (with_reducible first | exact HB.out | apply below_alloc | apply pw_below_drewN | apply below_drew1 | refine below_set ?_ (IsS49.ge HI193.out) | refine below_set ?_ GE194.out | refine below_set ?_ GE210.out | refine below_set ?_ GE220.out) | exact HB.out)⟩⟩
                                        · rw [if_neg c36] at H
                                          have c36b0 : decide (0 < x16_6) = false := decide_eq_false c36
                                          clear c36
                                          have HC91 := Aside0.mk H
                                          clear H
                                          go_upto_region 31 with (fail)
                                          go_cut [158] (fun v158 wc => ∃ (kq : Nat) (x158_90 : Bool) (x194000_90 : ByteArray) (x194001_90 : Int) (x194002_90 : Bool), v158 = .bool x158_90 ∧ Aside0 (bywashlaw8_SplitPlays.j7 kq l2 l1 (l1.length : Int) x76_3 x158_90 x194000_90 x194001_90 x194002_90 x195000_6 x195001_6 x195002_6 = some r) ∧ Aside0 (kq ≤ k6) ∧ Aside0 (wc.heap[gb194]? = some (.cells #[.int .i64 x195000_6, .string x195001_6, .bool x195002_6] 36 (0, 0))) ∧ Aside0 (IsS49 w wc g193 x194000_90 x194001_90 x194002_90) ∧ Aside0 (Below w.heap.size w wc))
                                          case first =>
                                            have H := HC91.out
                                            clear HC91
                                            replace H := Option.bind_eq_some_iff.mp H
                                            obtain ⟨⟨t221, t222, t223, t224⟩, A920, H⟩ := H
                                            replace H : (if t221 = (x195001_6.size : Int) then ((split_Splitter_Over.f t222 t223 t224).bind fun bt225 => (if bt225.1 = true then (if x195002_6 = true then (bywashlaw8_SplitPlays.j7 k6 l2 l1 (l1.length : Int) x76_3 false bt225.2.1 bt225.2.2.1 bt225.2.2.2 x195000_6 x195001_6 x195002_6) else (bywashlaw8_SplitPlays.j7 k6 l2 l1 (l1.length : Int) x76_3 true bt225.2.1 bt225.2.2.1 bt225.2.2.2 x195000_6 x195001_6 x195002_6)) else (if x195002_6 = true then (bywashlaw8_SplitPlays.j7 k6 l2 l1 (l1.length : Int) x76_3 true bt225.2.1 bt225.2.2.1 bt225.2.2.2 x195000_6 x195001_6 x195002_6) else (bywashlaw8_SplitPlays.j7 k6 l2 l1 (l1.length : Int) x76_3 false bt225.2.1 bt225.2.2.1 bt225.2.2.2 x195000_6 x195001_6 x195002_6)))) else (bywashlaw8_SplitPlays.j7 k6 l2 l1 (l1.length : Int) x76_3 true t222 t223 t224 x195000_6 x195001_6 x195002_6)) = some r := H
                                            have A92 := Aside0.mk A920
                                            clear A920
                                            by_cases c93 : t221 = (x195001_6.size : Int)
                                            · rw [if_pos c93] at H
                                              have c93b0 : (t221 == (x195001_6.size : Int)) = true := beq_iff_eq.mpr c93
                                              have c93b1 : (t221 != (x195001_6.size : Int)) = false := bne_eq_false_iff_eq.mpr c93
                                              clear c93
                                              (first | rw [c93b0] | (simp only [i64_w, i32_w]; rw [c93b0]) | skip)
                                              replace H := Option.bind_eq_some_iff.mp H
                                              obtain ⟨⟨t225, t226, t227, t228⟩, A940, H⟩ := H
                                              replace H : (if t225 = true then (if x195002_6 = true then (bywashlaw8_SplitPlays.j7 k6 l2 l1 (l1.length : Int) x76_3 false t226 t227 t228 x195000_6 x195001_6 x195002_6) else (bywashlaw8_SplitPlays.j7 k6 l2 l1 (l1.length : Int) x76_3 true t226 t227 t228 x195000_6 x195001_6 x195002_6)) else (if x195002_6 = true then (bywashlaw8_SplitPlays.j7 k6 l2 l1 (l1.length : Int) x76_3 true t226 t227 t228 x195000_6 x195001_6 x195002_6) else (bywashlaw8_SplitPlays.j7 k6 l2 l1 (l1.length : Int) x76_3 false t226 t227 t228 x195000_6 x195001_6 x195002_6))) = some r := H
                                              have A94 := Aside0.mk A940
                                              clear A940
                                              by_cases c95 : t225 = true
                                              · subst c95
                                                have H1 : (if x195002_6 = true then (bywashlaw8_SplitPlays.j7 k6 l2 l1 (l1.length : Int) x76_3 false t226 t227 t228 x195000_6 x195001_6 x195002_6) else (bywashlaw8_SplitPlays.j7 k6 l2 l1 (l1.length : Int) x76_3 true t226 t227 t228 x195000_6 x195001_6 x195002_6)) = some r := by rw [if_pos rfl] at H; exact H
                                                clear H
                                                have H := H1
                                                clear H1
                                                by_cases c96 : x195002_6 = true
                                                · subst c96
                                                  have H1 : (bywashlaw8_SplitPlays.j7 k6 l2 l1 (l1.length : Int) x76_3 false t226 t227 t228 x195000_6 x195001_6 true) = some r := by rw [if_pos rfl] at H; exact H
                                                  clear H
                                                  have H := H1
                                                  clear H1
                                                  have H' := Aside0.mk H
                                                  clear H
                                                  try go_wp2
                                                  have n0_ := Aside0.mk (blk_drew BK194.out)
                                                  have n1_ := Aside0.mk (IsS49.drew HI193.out)
                                                  have n2_ := Aside0.mk (below_drew1 HB.out)
                                                  clear BK194
                                                  clear HI193
                                                  clear HB
                                                  have BK194 := n0_
                                                  have HI193 := n1_
                                                  have HB := n2_
                                                  clear n0_ n1_ n2_
                                                  refine start_ (n := 17) (S := fun w' => w'.cell? ⟨gb194, 0, none⟩ = some (.int .i64 x195000_6) ∧ w'.cell? ⟨gb194, 1, none⟩ = some (.string x195001_6) ∧ w'.cell? ⟨gb194, 2, none⟩ = some (.bool true)) (ds := []) #[false, false, false, false, false, false, false, false, false, false, false, false, false, false, false, false, false] (by kernel_rfl) rfl rfl ⟨(blk_cell BK194.out 0).trans rfl, (blk_cell BK194.out 1).trans rfl, (blk_cell BK194.out 2).trans rfl⟩ (fun hHeld => ?_); refine with_tabW bywashlaw8_SplitPlays.tab31 bywashlaw8_SplitPlays.bits31 (fun HT_ HW_ => ?_)
                                                  generalize wr.drew = w97 at BK194 HI193 HB hHeld ⊢
                                                  refine pure_ (i := 0) (N := some 142) (v := ?_) (a' := ?_) #[true, false, false, false, false, false, false, false, false, false, false, false, false, false, false, false, false] rfl rfl (any_of HT_.out (by kernel_rfl)) (fun _ _ _ h => h) (Or.inl ⟨by rfl, ?_⟩) ?_ ?_
                                                  rotate_left
                                                  · intro w'
                                                    go_simp
                                                    with_reducible rfl
                                                  rotate_left
                                                  · simp only [Act.put, List.setIfInBounds_toArray, List.set_cons_zero, List.set_cons_succ, i64_w, i32_w]
                                                    rfl
                                                  refine pure_ (i := 2) (N := some 144) (v := ?_) (a' := ?_) #[true, false, true, false, false, false, false, false, false, false, false, false, false, false, false, false, false] rfl rfl (any_of HT_.out (by kernel_rfl)) (fun _ _ _ h => h) (Or.inl ⟨by rfl, ?_⟩) ?_ ?_
                                                  rotate_left
                                                  · intro w'
                                                    go_simp
                                                    with_reducible rfl
                                                  rotate_left
                                                  · simp only [Act.put, List.setIfInBounds_toArray, List.set_cons_zero, List.set_cons_succ, i64_w, i32_w]
                                                    rfl
                                                  refine pure_ (i := 3) (N := some 145) (v := ?_) (a' := ?_) #[true, false, true, true, false, false, false, false, false, false, false, false, false, false, false, false, false] rfl rfl (any_of HT_.out (by kernel_rfl)) (fun _ _ _ h => h) (Or.inl ⟨by rfl, ?_⟩) ?_ ?_
                                                  rotate_left
                                                  · intro w'
                                                    go_simp
                                                    with_reducible rfl
                                                  rotate_left
                                                  · simp only [Act.put, List.setIfInBounds_toArray, List.set_cons_zero, List.set_cons_succ, i64_w, i32_w]
                                                    rfl
                                                  refine pure_ (i := 4) (N := some 146) (v := ?_) (a' := ?_) #[true, false, true, true, true, false, false, false, false, false, false, false, false, false, false, false, false] rfl rfl (any_of HT_.out (by kernel_rfl)) (fun _ _ _ h => h) (Or.inl ⟨by rfl, ?_⟩) ?_ ?_
                                                  rotate_left
                                                  · intro w'
                                                    go_simp
                                                    with_reducible rfl
                                                  rotate_left
                                                  · simp only [Act.put, List.setIfInBounds_toArray, List.set_cons_zero, List.set_cons_succ, i64_w, i32_w]
                                                    rfl
                                                  refine take_ (i := 5) (N := some 147) (v := ?_) (a' := ?_) #[true, false, true, true, true, true, false, false, false, false, false, false, false, false, false, false, false] rfl rfl (take_ofW HT_.out HW_.out (by kernel_rfl)) (fun _ _ _ h => h) (Or.inl ⟨by rfl, ?_⟩) hHeld ?_ ?_
                                                  rotate_left
                                                  · rintro w' ⟨s0, s1, s2⟩
                                                    go_simp
                                                    with_reducible rfl
                                                  rotate_left
                                                  · simp only [Act.put, List.setIfInBounds_toArray, List.set_cons_zero, List.set_cons_succ, i64_w, i32_w]
                                                    rfl
                                                  refine pure_ (i := 6) (N := some 148) (v := ?_) (a' := ?_) #[true, false, true, true, true, true, true, false, false, false, false, false, false, false, false, false, false] rfl rfl (any_of HT_.out (by kernel_rfl)) (fun _ _ _ h => h) (Or.inl ⟨by rfl, ?_⟩) ?_ ?_
                                                  rotate_left
                                                  · intro w'
                                                    go_simp
                                                    with_reducible rfl
                                                  rotate_left
                                                  · simp only [Act.put, List.setIfInBounds_toArray, List.set_cons_zero, List.set_cons_succ, i64_w, i32_w]
                                                    rfl
                                                  refine one_ (i := 1) (N := some 143) #[true, true, true, true, true, true, true, false, false, false, false, false, false, false, false, false, false] rfl rfl (one_of HT_.out (by kernel_rfl)) (by decide) (fun K hK => ?_)
                                                  refine goes_ Try.func13 (by kernel_rfl) rfl #[.pointer (some ⟨g193, 0, none⟩)] (by rfl) rfl rfl (by (try simp only [List.map_toArray, List.map_cons, List.map_nil]); first | done | rfl | (simp only [List.length_drop, List.length_take]; rfl)) ?_
                                                  with_reducible refine (split_Splitter_Held.calls g193 x194000_6 x194001_6 x194002_6 t221 t222 t223 t224 w _ ?side1 ?side2 A92.out).mono ?_
                                                  (case side1 => repeat (first | (with_reducible first | exact HI193.out | apply IsS49.alloc | apply IsS49.drewN | apply IsS49.drew | apply IsS49.set_0 | apply IsS49.set_1 | apply IsS49.set_2 | refine IsS49.far ?_ NB193_194.out _ | apply IsS49.far (hne := NB193_194.out)) | exact HI193.out))
                                                  (case side2 => repeat (first | (with_reducible first | exact HB.out | apply below_alloc | apply pw_below_drewN | apply below_drew1 | refine below_set ?_ (IsS49.ge HI193.out) | refine below_set ?_ GE194.out) | exact HB.out))
                                                  rintro e w98 ⟨rfl, hi, hb, hk⟩
                                                  refine ⟨_, rfl, ?_⟩
                                                  have n0_ := Aside0.mk (KeepBut.blk hk (g' := gb194) (o := .cells #[.int .i64 x195000_6, .string x195001_6, .bool true] 36 (0, 0)) (by (with_reducible repeat (first | refine blk_drewN ?_ _ | refine blk_drew ?_ | refine blk_alloc ?_ _)); exact BK194.out) NB194_193.out (by simp))
                                                  have n1_ := Aside0.mk (hb)
                                                  have n2_ := Aside0.mk (hi)
                                                  clear BK194
                                                  clear HB
                                                  clear HI193
                                                  have BK194 := n0_
                                                  have HB := n1_
                                                  have HI193 := n2_
                                                  clear n0_ n1_ n2_
                                                  (try clear hb)
                                                  (try clear hb2)
                                                  (try clear hk)
                                                  (try clear hi)
                                                  refine hK.out _ _ ⟨(blk_cell BK194.out 0).trans rfl, (blk_cell BK194.out 1).trans rfl, (blk_cell BK194.out 2).trans rfl⟩ (fun hHeld => ?_)
                                                  clear hK K
                                                  refine norm_ (a' := ?_) ?_ ?_
                                                  rotate_left
                                                  · show Act.put _ (some 143) _ = _
                                                    simp only [Act.put, List.setIfInBounds_toArray, List.set_cons_zero, List.set_cons_succ, i64_w, i32_w]
                                                    rfl
                                                  refine pure_ (i := 7) (N := some 149) (v := ?_) (a' := ?_) #[true, true, true, true, true, true, true, true, false, false, false, false, false, false, false, false, false] rfl rfl (any_of HT_.out (by kernel_rfl)) (fun _ _ _ h => h) (Or.inl ⟨by rfl, ?_⟩) ?_ ?_
                                                  rotate_left
                                                  · intro w'
                                                    go_simp
                                                    with_reducible rfl
                                                  rotate_left
                                                  · simp only [Act.put, List.setIfInBounds_toArray, List.set_cons_zero, List.set_cons_succ, i64_w, i32_w]
                                                    rfl
                                                  refine pure_ (i := 8) (N := some 150) (v := ?_) (a' := ?_) #[true, true, true, true, true, true, true, true, true, false, false, false, false, false, false, false, false] rfl rfl (any_of HT_.out (by kernel_rfl)) (fun _ _ _ h => h) (Or.inl ⟨by rfl, ?_⟩) ?_ ?_
                                                  rotate_left
                                                  · intro w'
                                                    go_simp
                                                    with_reducible rfl
                                                  rotate_left
                                                  · simp only [Act.put, List.setIfInBounds_toArray, List.set_cons_zero, List.set_cons_succ, i64_w, i32_w]
                                                    rfl
                                                  refine pure_ (i := 9) (N := some 151) (v := ?_) (a' := ?_) #[true, true, true, true, true, true, true, true, true, true, false, false, false, false, false, false, false] rfl rfl (any_of HT_.out (by kernel_rfl)) (fun _ _ _ h => h) (Or.inl ⟨by rfl, ?_⟩) ?_ ?_
                                                  rotate_left
                                                  · intro w'
                                                    go_simp
                                                    with_reducible rfl
                                                  rotate_left
                                                  · simp only [Act.put, List.setIfInBounds_toArray, List.set_cons_zero, List.set_cons_succ, i64_w, i32_w]
                                                    rfl
                                                  refine pure_ (i := 11) (N := some 153) (v := ?_) (a' := ?_) #[true, true, true, true, true, true, true, true, true, true, false, true, false, false, false, false, false] rfl rfl (any_of HT_.out (by kernel_rfl)) (fun _ _ _ h => h) (Or.inl ⟨by rfl, ?_⟩) ?_ ?_
                                                  rotate_left
                                                  · intro w'
                                                    go_simp
                                                    with_reducible rfl
                                                  rotate_left
                                                  · simp only [Act.put, List.setIfInBounds_toArray, List.set_cons_zero, List.set_cons_succ, i64_w, i32_w]
                                                    rfl
                                                  refine pure_ (i := 12) (N := some 154) (v := ?_) (a' := ?_) #[true, true, true, true, true, true, true, true, true, true, false, true, true, false, false, false, false] rfl rfl (any_of HT_.out (by kernel_rfl)) (fun _ _ _ h => h) (Or.inl ⟨by rfl, ?_⟩) ?_ ?_
                                                  rotate_left
                                                  · intro w'
                                                    go_simp
                                                    with_reducible rfl
                                                  rotate_left
                                                  · simp only [Act.put, List.setIfInBounds_toArray, List.set_cons_zero, List.set_cons_succ, i64_w, i32_w]
                                                    rfl
                                                  refine pure_ (i := 13) (N := some 155) (v := ?_) (a' := ?_) #[true, true, true, true, true, true, true, true, true, true, false, true, true, true, false, false, false] rfl rfl (any_of HT_.out (by kernel_rfl)) (fun _ _ _ h => h) (Or.inl ⟨by rfl, ?_⟩) ?_ ?_
                                                  rotate_left
                                                  · intro w'
                                                    go_simp
                                                    with_reducible rfl
                                                  rotate_left
                                                  · simp only [Act.put, List.setIfInBounds_toArray, List.set_cons_zero, List.set_cons_succ, i64_w, i32_w]
                                                    rfl
                                                  refine take_ (i := 14) (N := some 156) (v := ?_) (a' := ?_) #[true, true, true, true, true, true, true, true, true, true, false, true, true, true, true, false, false] rfl rfl (take_ofW HT_.out HW_.out (by kernel_rfl)) (fun _ _ _ h => h) (Or.inl ⟨by rfl, ?_⟩) hHeld ?_ ?_
                                                  rotate_left
                                                  · rintro w' ⟨s0, s1, s2⟩
                                                    go_simp
                                                    with_reducible rfl
                                                  rotate_left
                                                  · simp only [Act.put, List.setIfInBounds_toArray, List.set_cons_zero, List.set_cons_succ, i64_w, i32_w]
                                                    rfl
                                                  refine one_ (i := 10) (N := some 152) #[true, true, true, true, true, true, true, true, true, true, true, true, true, true, true, false, false] rfl rfl (one_of HT_.out (by kernel_rfl)) (by decide) (fun K hK => ?_)
                                                  refine goes_ Try.func14 (by kernel_rfl) rfl #[.pointer (some ⟨g193, 0, none⟩)] (by rfl) rfl rfl (by (try simp only [List.map_toArray, List.map_cons, List.map_nil]); first | done | rfl | (simp only [List.length_drop, List.length_take]; rfl)) ?_
                                                  with_reducible refine (split_Splitter_Over.calls g193 t222 t223 t224 true t226 t227 t228 w _ ?side1 ?side2 A94.out).mono ?_
                                                  (case side1 => repeat (first | (with_reducible first | exact HI193.out | apply IsS49.alloc | apply IsS49.drewN | apply IsS49.drew | apply IsS49.set_0 | apply IsS49.set_1 | apply IsS49.set_2 | refine IsS49.far ?_ NB193_194.out _ | apply IsS49.far (hne := NB193_194.out)) | exact HI193.out))
                                                  (case side2 => repeat (first | (with_reducible first | exact HB.out | apply below_alloc | apply pw_below_drewN | apply below_drew1 | refine below_set ?_ (IsS49.ge HI193.out) | refine below_set ?_ GE194.out) | exact HB.out))
                                                  rintro e w99 ⟨rfl, hi, hb, hk⟩
                                                  refine ⟨_, rfl, ?_⟩
                                                  have n0_ := Aside0.mk (KeepBut.blk hk (g' := gb194) (o := .cells #[.int .i64 x195000_6, .string x195001_6, .bool true] 36 (0, 0)) (by (with_reducible repeat (first | refine blk_drewN ?_ _ | refine blk_drew ?_ | refine blk_alloc ?_ _)); exact BK194.out) NB194_193.out (by simp))
                                                  have n1_ := Aside0.mk (hb)
                                                  have n2_ := Aside0.mk (hi)
                                                  clear BK194
                                                  clear HB
                                                  clear HI193
                                                  have BK194 := n0_
                                                  have HB := n1_
                                                  have HI193 := n2_
                                                  clear n0_ n1_ n2_
                                                  (try clear hb)
                                                  (try clear hb2)
                                                  (try clear hk)
                                                  (try clear hi)
                                                  refine hK.out _ _ ⟨(blk_cell BK194.out 0).trans rfl, (blk_cell BK194.out 1).trans rfl, (blk_cell BK194.out 2).trans rfl⟩ (fun hHeld => ?_)
                                                  clear hK K
                                                  refine norm_ (a' := ?_) ?_ ?_
                                                  rotate_left
                                                  · show Act.put _ (some 152) _ = _
                                                    simp only [Act.put, List.setIfInBounds_toArray, List.set_cons_zero, List.set_cons_succ, i64_w, i32_w]
                                                    rfl
                                                  refine pure_ (i := 15) (N := some 157) (v := ?_) (a' := ?_) #[true, true, true, true, true, true, true, true, true, true, true, true, true, true, true, true, false] rfl rfl (any_of HT_.out (by kernel_rfl)) (fun _ _ _ h => h) (Or.inl ⟨by rfl, ?_⟩) ?_ ?_
                                                  rotate_left
                                                  · intro w'
                                                    go_simp
                                                    with_reducible rfl
                                                  rotate_left
                                                  · simp only [Act.put, List.setIfInBounds_toArray, List.set_cons_zero, List.set_cons_succ, i64_w, i32_w]
                                                    rfl
                                                  refine pure_ (i := 16) (N := some 158) (v := ?_) (a' := ?_) #[true, true, true, true, true, true, true, true, true, true, true, true, true, true, true, true, true] rfl rfl (any_of HT_.out (by kernel_rfl)) (fun _ _ _ h => h) (Or.inl ⟨by rfl, ?_⟩) ?_ ?_
                                                  rotate_left
                                                  · intro w'
                                                    go_simp
                                                    with_reducible rfl
                                                  rotate_left
                                                  · simp only [Act.put, List.setIfInBounds_toArray, List.set_cons_zero, List.set_cons_succ, i64_w, i32_w]
                                                    rfl
                                                  refine done_ (done_of HT_.out (by kernel_rfl)) ?_
                                                  try go_wp2
                                                  go_meet
                                                  case rel => exact ⟨_, (false), (t226), (t227), (t228), (by first | rfl | (simp; done) | (simp [*]; done)), H', ⟨by have := HJ3.out; have := HJ11.out; have := HK3.out; have := HJ20.out; have := HJ29.out; have := HK6.out; first | omega | exact Nat.le_refl _⟩, ⟨by (with_reducible repeat (first | refine blk_drewN ?_ _ | refine blk_drew ?_ | refine blk_alloc ?_ _)); exact BK194.out⟩, ⟨by repeat (first | (with_reducible first | exact HI193.out | apply IsS49.alloc | apply IsS49.drewN | apply IsS49.drew | apply IsS49.set_0 | apply IsS49.set_1 | apply IsS49.set_2 | refine IsS49.far ?_ NB193_194.out _ | apply IsS49.far (hne := NB193_194.out)) | exact HI193.out)⟩, ⟨by repeat (first | (with_reducible first | exact HB.out | apply below_alloc | apply pw_below_drewN | apply below_drew1 | refine below_set ?_ (IsS49.ge HI193.out) | refine below_set ?_ GE194.out) | exact HB.out)⟩⟩
                                                · replace c96 := Bool.eq_false_iff.mpr c96
                                                  subst c96
                                                  have H1 : (bywashlaw8_SplitPlays.j7 k6 l2 l1 (l1.length : Int) x76_3 true t226 t227 t228 x195000_6 x195001_6 false) = some r := by rw [if_neg (show ¬ (false = true) by decide)] at H; exact H
                                                  clear H
                                                  have H := H1
                                                  clear H1
                                                  have H' := Aside0.mk H
                                                  clear H
                                                  try go_wp2
                                                  have n0_ := Aside0.mk (blk_drew BK194.out)
                                                  have n1_ := Aside0.mk (IsS49.drew HI193.out)
                                                  have n2_ := Aside0.mk (below_drew1 HB.out)
                                                  clear BK194
                                                  clear HI193
                                                  clear HB
                                                  have BK194 := n0_
                                                  have HI193 := n1_
                                                  have HB := n2_
                                                  clear n0_ n1_ n2_
                                                  refine start_ (n := 17) (S := fun w' => w'.cell? ⟨gb194, 0, none⟩ = some (.int .i64 x195000_6) ∧ w'.cell? ⟨gb194, 1, none⟩ = some (.string x195001_6) ∧ w'.cell? ⟨gb194, 2, none⟩ = some (.bool false)) (ds := []) #[false, false, false, false, false, false, false, false, false, false, false, false, false, false, false, false, false] (by kernel_rfl) rfl rfl ⟨(blk_cell BK194.out 0).trans rfl, (blk_cell BK194.out 1).trans rfl, (blk_cell BK194.out 2).trans rfl⟩ (fun hHeld => ?_); refine with_tabW bywashlaw8_SplitPlays.tab31 bywashlaw8_SplitPlays.bits31 (fun HT_ HW_ => ?_)
                                                  generalize wr.drew = w100 at BK194 HI193 HB hHeld ⊢
                                                  refine pure_ (i := 0) (N := some 142) (v := ?_) (a' := ?_) #[true, false, false, false, false, false, false, false, false, false, false, false, false, false, false, false, false] rfl rfl (any_of HT_.out (by kernel_rfl)) (fun _ _ _ h => h) (Or.inl ⟨by rfl, ?_⟩) ?_ ?_
                                                  rotate_left
                                                  · intro w'
                                                    go_simp
                                                    with_reducible rfl
                                                  rotate_left
                                                  · simp only [Act.put, List.setIfInBounds_toArray, List.set_cons_zero, List.set_cons_succ, i64_w, i32_w]
                                                    rfl
                                                  refine pure_ (i := 2) (N := some 144) (v := ?_) (a' := ?_) #[true, false, true, false, false, false, false, false, false, false, false, false, false, false, false, false, false] rfl rfl (any_of HT_.out (by kernel_rfl)) (fun _ _ _ h => h) (Or.inl ⟨by rfl, ?_⟩) ?_ ?_
                                                  rotate_left
                                                  · intro w'
                                                    go_simp
                                                    with_reducible rfl
                                                  rotate_left
                                                  · simp only [Act.put, List.setIfInBounds_toArray, List.set_cons_zero, List.set_cons_succ, i64_w, i32_w]
                                                    rfl
                                                  refine pure_ (i := 3) (N := some 145) (v := ?_) (a' := ?_) #[true, false, true, true, false, false, false, false, false, false, false, false, false, false, false, false, false] rfl rfl (any_of HT_.out (by kernel_rfl)) (fun _ _ _ h => h) (Or.inl ⟨by rfl, ?_⟩) ?_ ?_
                                                  rotate_left
                                                  · intro w'
                                                    go_simp
                                                    with_reducible rfl
                                                  rotate_left
                                                  · simp only [Act.put, List.setIfInBounds_toArray, List.set_cons_zero, List.set_cons_succ, i64_w, i32_w]
                                                    rfl
                                                  refine pure_ (i := 4) (N := some 146) (v := ?_) (a' := ?_) #[true, false, true, true, true, false, false, false, false, false, false, false, false, false, false, false, false] rfl rfl (any_of HT_.out (by kernel_rfl)) (fun _ _ _ h => h) (Or.inl ⟨by rfl, ?_⟩) ?_ ?_
                                                  rotate_left
                                                  · intro w'
                                                    go_simp
                                                    with_reducible rfl
                                                  rotate_left
                                                  · simp only [Act.put, List.setIfInBounds_toArray, List.set_cons_zero, List.set_cons_succ, i64_w, i32_w]
                                                    rfl
                                                  refine take_ (i := 5) (N := some 147) (v := ?_) (a' := ?_) #[true, false, true, true, true, true, false, false, false, false, false, false, false, false, false, false, false] rfl rfl (take_ofW HT_.out HW_.out (by kernel_rfl)) (fun _ _ _ h => h) (Or.inl ⟨by rfl, ?_⟩) hHeld ?_ ?_
                                                  rotate_left
                                                  · rintro w' ⟨s0, s1, s2⟩
                                                    go_simp
                                                    with_reducible rfl
                                                  rotate_left
                                                  · simp only [Act.put, List.setIfInBounds_toArray, List.set_cons_zero, List.set_cons_succ, i64_w, i32_w]
                                                    rfl
                                                  refine pure_ (i := 6) (N := some 148) (v := ?_) (a' := ?_) #[true, false, true, true, true, true, true, false, false, false, false, false, false, false, false, false, false] rfl rfl (any_of HT_.out (by kernel_rfl)) (fun _ _ _ h => h) (Or.inl ⟨by rfl, ?_⟩) ?_ ?_
                                                  rotate_left
                                                  · intro w'
                                                    go_simp
                                                    with_reducible rfl
                                                  rotate_left
                                                  · simp only [Act.put, List.setIfInBounds_toArray, List.set_cons_zero, List.set_cons_succ, i64_w, i32_w]
                                                    rfl
                                                  refine one_ (i := 1) (N := some 143) #[true, true, true, true, true, true, true, false, false, false, false, false, false, false, false, false, false] rfl rfl (one_of HT_.out (by kernel_rfl)) (by decide) (fun K hK => ?_)
                                                  refine goes_ Try.func13 (by kernel_rfl) rfl #[.pointer (some ⟨g193, 0, none⟩)] (by rfl) rfl rfl (by (try simp only [List.map_toArray, List.map_cons, List.map_nil]); first | done | rfl | (simp only [List.length_drop, List.length_take]; rfl)) ?_
                                                  with_reducible refine (split_Splitter_Held.calls g193 x194000_6 x194001_6 x194002_6 t221 t222 t223 t224 w _ ?side1 ?side2 A92.out).mono ?_
                                                  (case side1 => repeat (first | (with_reducible first | exact HI193.out | apply IsS49.alloc | apply IsS49.drewN | apply IsS49.drew | apply IsS49.set_0 | apply IsS49.set_1 | apply IsS49.set_2 | refine IsS49.far ?_ NB193_194.out _ | apply IsS49.far (hne := NB193_194.out)) | exact HI193.out))
                                                  (case side2 => repeat (first | (with_reducible first | exact HB.out | apply below_alloc | apply pw_below_drewN | apply below_drew1 | refine below_set ?_ (IsS49.ge HI193.out) | refine below_set ?_ GE194.out) | exact HB.out))
                                                  rintro e w101 ⟨rfl, hi, hb, hk⟩
                                                  refine ⟨_, rfl, ?_⟩
                                                  have n0_ := Aside0.mk (KeepBut.blk hk (g' := gb194) (o := .cells #[.int .i64 x195000_6, .string x195001_6, .bool false] 36 (0, 0)) (by (with_reducible repeat (first | refine blk_drewN ?_ _ | refine blk_drew ?_ | refine blk_alloc ?_ _)); exact BK194.out) NB194_193.out (by simp))
                                                  have n1_ := Aside0.mk (hb)
                                                  have n2_ := Aside0.mk (hi)
                                                  clear BK194
                                                  clear HB
                                                  clear HI193
                                                  have BK194 := n0_
                                                  have HB := n1_
                                                  have HI193 := n2_
                                                  clear n0_ n1_ n2_
                                                  (try clear hb)
                                                  (try clear hb2)
                                                  (try clear hk)
                                                  (try clear hi)
                                                  refine hK.out _ _ ⟨(blk_cell BK194.out 0).trans rfl, (blk_cell BK194.out 1).trans rfl, (blk_cell BK194.out 2).trans rfl⟩ (fun hHeld => ?_)
                                                  clear hK K
                                                  refine norm_ (a' := ?_) ?_ ?_
                                                  rotate_left
                                                  · show Act.put _ (some 143) _ = _
                                                    simp only [Act.put, List.setIfInBounds_toArray, List.set_cons_zero, List.set_cons_succ, i64_w, i32_w]
                                                    rfl
                                                  refine pure_ (i := 7) (N := some 149) (v := ?_) (a' := ?_) #[true, true, true, true, true, true, true, true, false, false, false, false, false, false, false, false, false] rfl rfl (any_of HT_.out (by kernel_rfl)) (fun _ _ _ h => h) (Or.inl ⟨by rfl, ?_⟩) ?_ ?_
                                                  rotate_left
                                                  · intro w'
                                                    go_simp
                                                    with_reducible rfl
                                                  rotate_left
                                                  · simp only [Act.put, List.setIfInBounds_toArray, List.set_cons_zero, List.set_cons_succ, i64_w, i32_w]
                                                    rfl
                                                  refine pure_ (i := 8) (N := some 150) (v := ?_) (a' := ?_) #[true, true, true, true, true, true, true, true, true, false, false, false, false, false, false, false, false] rfl rfl (any_of HT_.out (by kernel_rfl)) (fun _ _ _ h => h) (Or.inl ⟨by rfl, ?_⟩) ?_ ?_
                                                  rotate_left
                                                  · intro w'
                                                    go_simp
                                                    with_reducible rfl
                                                  rotate_left
                                                  · simp only [Act.put, List.setIfInBounds_toArray, List.set_cons_zero, List.set_cons_succ, i64_w, i32_w]
                                                    rfl
                                                  refine pure_ (i := 9) (N := some 151) (v := ?_) (a' := ?_) #[true, true, true, true, true, true, true, true, true, true, false, false, false, false, false, false, false] rfl rfl (any_of HT_.out (by kernel_rfl)) (fun _ _ _ h => h) (Or.inl ⟨by rfl, ?_⟩) ?_ ?_
                                                  rotate_left
                                                  · intro w'
                                                    go_simp
                                                    with_reducible rfl
                                                  rotate_left
                                                  · simp only [Act.put, List.setIfInBounds_toArray, List.set_cons_zero, List.set_cons_succ, i64_w, i32_w]
                                                    rfl
                                                  refine pure_ (i := 11) (N := some 153) (v := ?_) (a' := ?_) #[true, true, true, true, true, true, true, true, true, true, false, true, false, false, false, false, false] rfl rfl (any_of HT_.out (by kernel_rfl)) (fun _ _ _ h => h) (Or.inl ⟨by rfl, ?_⟩) ?_ ?_
                                                  rotate_left
                                                  · intro w'
                                                    go_simp
                                                    with_reducible rfl
                                                  rotate_left
                                                  · simp only [Act.put, List.setIfInBounds_toArray, List.set_cons_zero, List.set_cons_succ, i64_w, i32_w]
                                                    rfl
                                                  refine pure_ (i := 12) (N := some 154) (v := ?_) (a' := ?_) #[true, true, true, true, true, true, true, true, true, true, false, true, true, false, false, false, false] rfl rfl (any_of HT_.out (by kernel_rfl)) (fun _ _ _ h => h) (Or.inl ⟨by rfl, ?_⟩) ?_ ?_
                                                  rotate_left
                                                  · intro w'
                                                    go_simp
                                                    with_reducible rfl
                                                  rotate_left
                                                  · simp only [Act.put, List.setIfInBounds_toArray, List.set_cons_zero, List.set_cons_succ, i64_w, i32_w]
                                                    rfl
                                                  refine pure_ (i := 13) (N := some 155) (v := ?_) (a' := ?_) #[true, true, true, true, true, true, true, true, true, true, false, true, true, true, false, false, false] rfl rfl (any_of HT_.out (by kernel_rfl)) (fun _ _ _ h => h) (Or.inl ⟨by rfl, ?_⟩) ?_ ?_
                                                  rotate_left
                                                  · intro w'
                                                    go_simp
                                                    with_reducible rfl
                                                  rotate_left
                                                  · simp only [Act.put, List.setIfInBounds_toArray, List.set_cons_zero, List.set_cons_succ, i64_w, i32_w]
                                                    rfl
                                                  refine take_ (i := 14) (N := some 156) (v := ?_) (a' := ?_) #[true, true, true, true, true, true, true, true, true, true, false, true, true, true, true, false, false] rfl rfl (take_ofW HT_.out HW_.out (by kernel_rfl)) (fun _ _ _ h => h) (Or.inl ⟨by rfl, ?_⟩) hHeld ?_ ?_
                                                  rotate_left
                                                  · rintro w' ⟨s0, s1, s2⟩
                                                    go_simp
                                                    with_reducible rfl
                                                  rotate_left
                                                  · simp only [Act.put, List.setIfInBounds_toArray, List.set_cons_zero, List.set_cons_succ, i64_w, i32_w]
                                                    rfl
                                                  refine one_ (i := 10) (N := some 152) #[true, true, true, true, true, true, true, true, true, true, true, true, true, true, true, false, false] rfl rfl (one_of HT_.out (by kernel_rfl)) (by decide) (fun K hK => ?_)
                                                  refine goes_ Try.func14 (by kernel_rfl) rfl #[.pointer (some ⟨g193, 0, none⟩)] (by rfl) rfl rfl (by (try simp only [List.map_toArray, List.map_cons, List.map_nil]); first | done | rfl | (simp only [List.length_drop, List.length_take]; rfl)) ?_
                                                  with_reducible refine (split_Splitter_Over.calls g193 t222 t223 t224 true t226 t227 t228 w _ ?side1 ?side2 A94.out).mono ?_
                                                  (case side1 => repeat (first | (with_reducible first | exact HI193.out | apply IsS49.alloc | apply IsS49.drewN | apply IsS49.drew | apply IsS49.set_0 | apply IsS49.set_1 | apply IsS49.set_2 | refine IsS49.far ?_ NB193_194.out _ | apply IsS49.far (hne := NB193_194.out)) | exact HI193.out))
                                                  (case side2 => repeat (first | (with_reducible first | exact HB.out | apply below_alloc | apply pw_below_drewN | apply below_drew1 | refine below_set ?_ (IsS49.ge HI193.out) | refine below_set ?_ GE194.out) | exact HB.out))
                                                  rintro e w102 ⟨rfl, hi, hb, hk⟩
                                                  refine ⟨_, rfl, ?_⟩
                                                  have n0_ := Aside0.mk (KeepBut.blk hk (g' := gb194) (o := .cells #[.int .i64 x195000_6, .string x195001_6, .bool false] 36 (0, 0)) (by (with_reducible repeat (first | refine blk_drewN ?_ _ | refine blk_drew ?_ | refine blk_alloc ?_ _)); exact BK194.out) NB194_193.out (by simp))
                                                  have n1_ := Aside0.mk (hb)
                                                  have n2_ := Aside0.mk (hi)
                                                  clear BK194
                                                  clear HB
                                                  clear HI193
                                                  have BK194 := n0_
                                                  have HB := n1_
                                                  have HI193 := n2_
                                                  clear n0_ n1_ n2_
                                                  (try clear hb)
                                                  (try clear hb2)
                                                  (try clear hk)
                                                  (try clear hi)
                                                  refine hK.out _ _ ⟨(blk_cell BK194.out 0).trans rfl, (blk_cell BK194.out 1).trans rfl, (blk_cell BK194.out 2).trans rfl⟩ (fun hHeld => ?_)
                                                  clear hK K
                                                  refine norm_ (a' := ?_) ?_ ?_
                                                  rotate_left
                                                  · show Act.put _ (some 152) _ = _
                                                    simp only [Act.put, List.setIfInBounds_toArray, List.set_cons_zero, List.set_cons_succ, i64_w, i32_w]
                                                    rfl
                                                  refine pure_ (i := 15) (N := some 157) (v := ?_) (a' := ?_) #[true, true, true, true, true, true, true, true, true, true, true, true, true, true, true, true, false] rfl rfl (any_of HT_.out (by kernel_rfl)) (fun _ _ _ h => h) (Or.inl ⟨by rfl, ?_⟩) ?_ ?_
                                                  rotate_left
                                                  · intro w'
                                                    go_simp
                                                    with_reducible rfl
                                                  rotate_left
                                                  · simp only [Act.put, List.setIfInBounds_toArray, List.set_cons_zero, List.set_cons_succ, i64_w, i32_w]
                                                    rfl
                                                  refine pure_ (i := 16) (N := some 158) (v := ?_) (a' := ?_) #[true, true, true, true, true, true, true, true, true, true, true, true, true, true, true, true, true] rfl rfl (any_of HT_.out (by kernel_rfl)) (fun _ _ _ h => h) (Or.inl ⟨by rfl, ?_⟩) ?_ ?_
                                                  rotate_left
                                                  · intro w'
                                                    go_simp
                                                    with_reducible rfl
                                                  rotate_left
                                                  · simp only [Act.put, List.setIfInBounds_toArray, List.set_cons_zero, List.set_cons_succ, i64_w, i32_w]
                                                    rfl
                                                  refine done_ (done_of HT_.out (by kernel_rfl)) ?_
                                                  try go_wp2
                                                  go_meet
                                                  case rel => exact ⟨_, (true), (t226), (t227), (t228), (by first | rfl | (simp; done) | (simp [*]; done)), H', ⟨by have := HJ3.out; have := HJ11.out; have := HK3.out; have := HJ20.out; have := HJ29.out; have := HK6.out; first | omega | exact Nat.le_refl _⟩, ⟨by (with_reducible repeat (first | refine blk_drewN ?_ _ | refine blk_drew ?_ | refine blk_alloc ?_ _)); exact BK194.out⟩, ⟨by repeat (first | (with_reducible first | exact HI193.out | apply IsS49.alloc | apply IsS49.drewN | apply IsS49.drew | apply IsS49.set_0 | apply IsS49.set_1 | apply IsS49.set_2 | refine IsS49.far ?_ NB193_194.out _ | apply IsS49.far (hne := NB193_194.out)) | exact HI193.out)⟩, ⟨by repeat (first | (with_reducible first | exact HB.out | apply below_alloc | apply pw_below_drewN | apply below_drew1 | refine below_set ?_ (IsS49.ge HI193.out) | refine below_set ?_ GE194.out) | exact HB.out)⟩⟩
                                              · replace c95 := Bool.eq_false_iff.mpr c95
                                                subst c95
                                                have H1 : (if x195002_6 = true then (bywashlaw8_SplitPlays.j7 k6 l2 l1 (l1.length : Int) x76_3 true t226 t227 t228 x195000_6 x195001_6 x195002_6) else (bywashlaw8_SplitPlays.j7 k6 l2 l1 (l1.length : Int) x76_3 false t226 t227 t228 x195000_6 x195001_6 x195002_6)) = some r := by rw [if_neg (show ¬ (false = true) by decide)] at H; exact H
                                                clear H
                                                have H := H1
                                                clear H1
                                                by_cases c103 : x195002_6 = true
                                                · subst c103
                                                  have H1 : (bywashlaw8_SplitPlays.j7 k6 l2 l1 (l1.length : Int) x76_3 true t226 t227 t228 x195000_6 x195001_6 true) = some r := by rw [if_pos rfl] at H; exact H
                                                  clear H
                                                  have H := H1
                                                  clear H1
                                                  have H' := Aside0.mk H
                                                  clear H
                                                  try go_wp2
                                                  have n0_ := Aside0.mk (blk_drew BK194.out)
                                                  have n1_ := Aside0.mk (IsS49.drew HI193.out)
                                                  have n2_ := Aside0.mk (below_drew1 HB.out)
                                                  clear BK194
                                                  clear HI193
                                                  clear HB
                                                  have BK194 := n0_
                                                  have HI193 := n1_
                                                  have HB := n2_
                                                  clear n0_ n1_ n2_
                                                  refine start_ (n := 17) (S := fun w' => w'.cell? ⟨gb194, 0, none⟩ = some (.int .i64 x195000_6) ∧ w'.cell? ⟨gb194, 1, none⟩ = some (.string x195001_6) ∧ w'.cell? ⟨gb194, 2, none⟩ = some (.bool true)) (ds := []) #[false, false, false, false, false, false, false, false, false, false, false, false, false, false, false, false, false] (by kernel_rfl) rfl rfl ⟨(blk_cell BK194.out 0).trans rfl, (blk_cell BK194.out 1).trans rfl, (blk_cell BK194.out 2).trans rfl⟩ (fun hHeld => ?_); refine with_tabW bywashlaw8_SplitPlays.tab31 bywashlaw8_SplitPlays.bits31 (fun HT_ HW_ => ?_)
                                                  generalize wr.drew = w104 at BK194 HI193 HB hHeld ⊢
                                                  refine pure_ (i := 0) (N := some 142) (v := ?_) (a' := ?_) #[true, false, false, false, false, false, false, false, false, false, false, false, false, false, false, false, false] rfl rfl (any_of HT_.out (by kernel_rfl)) (fun _ _ _ h => h) (Or.inl ⟨by rfl, ?_⟩) ?_ ?_
                                                  rotate_left
                                                  · intro w'
                                                    go_simp
                                                    with_reducible rfl
                                                  rotate_left
                                                  · simp only [Act.put, List.setIfInBounds_toArray, List.set_cons_zero, List.set_cons_succ, i64_w, i32_w]
                                                    rfl
                                                  refine pure_ (i := 2) (N := some 144) (v := ?_) (a' := ?_) #[true, false, true, false, false, false, false, false, false, false, false, false, false, false, false, false, false] rfl rfl (any_of HT_.out (by kernel_rfl)) (fun _ _ _ h => h) (Or.inl ⟨by rfl, ?_⟩) ?_ ?_
                                                  rotate_left
                                                  · intro w'
                                                    go_simp
                                                    with_reducible rfl
                                                  rotate_left
                                                  · simp only [Act.put, List.setIfInBounds_toArray, List.set_cons_zero, List.set_cons_succ, i64_w, i32_w]
                                                    rfl
                                                  refine pure_ (i := 3) (N := some 145) (v := ?_) (a' := ?_) #[true, false, true, true, false, false, false, false, false, false, false, false, false, false, false, false, false] rfl rfl (any_of HT_.out (by kernel_rfl)) (fun _ _ _ h => h) (Or.inl ⟨by rfl, ?_⟩) ?_ ?_
                                                  rotate_left
                                                  · intro w'
                                                    go_simp
                                                    with_reducible rfl
                                                  rotate_left
                                                  · simp only [Act.put, List.setIfInBounds_toArray, List.set_cons_zero, List.set_cons_succ, i64_w, i32_w]
                                                    rfl
                                                  refine pure_ (i := 4) (N := some 146) (v := ?_) (a' := ?_) #[true, false, true, true, true, false, false, false, false, false, false, false, false, false, false, false, false] rfl rfl (any_of HT_.out (by kernel_rfl)) (fun _ _ _ h => h) (Or.inl ⟨by rfl, ?_⟩) ?_ ?_
                                                  rotate_left
                                                  · intro w'
                                                    go_simp
                                                    with_reducible rfl
                                                  rotate_left
                                                  · simp only [Act.put, List.setIfInBounds_toArray, List.set_cons_zero, List.set_cons_succ, i64_w, i32_w]
                                                    rfl
                                                  refine take_ (i := 5) (N := some 147) (v := ?_) (a' := ?_) #[true, false, true, true, true, true, false, false, false, false, false, false, false, false, false, false, false] rfl rfl (take_ofW HT_.out HW_.out (by kernel_rfl)) (fun _ _ _ h => h) (Or.inl ⟨by rfl, ?_⟩) hHeld ?_ ?_
                                                  rotate_left
                                                  · rintro w' ⟨s0, s1, s2⟩
                                                    go_simp
                                                    with_reducible rfl
                                                  rotate_left
                                                  · simp only [Act.put, List.setIfInBounds_toArray, List.set_cons_zero, List.set_cons_succ, i64_w, i32_w]
                                                    rfl
                                                  refine pure_ (i := 6) (N := some 148) (v := ?_) (a' := ?_) #[true, false, true, true, true, true, true, false, false, false, false, false, false, false, false, false, false] rfl rfl (any_of HT_.out (by kernel_rfl)) (fun _ _ _ h => h) (Or.inl ⟨by rfl, ?_⟩) ?_ ?_
                                                  rotate_left
                                                  · intro w'
                                                    go_simp
                                                    with_reducible rfl
                                                  rotate_left
                                                  · simp only [Act.put, List.setIfInBounds_toArray, List.set_cons_zero, List.set_cons_succ, i64_w, i32_w]
                                                    rfl
                                                  refine one_ (i := 1) (N := some 143) #[true, true, true, true, true, true, true, false, false, false, false, false, false, false, false, false, false] rfl rfl (one_of HT_.out (by kernel_rfl)) (by decide) (fun K hK => ?_)
                                                  refine goes_ Try.func13 (by kernel_rfl) rfl #[.pointer (some ⟨g193, 0, none⟩)] (by rfl) rfl rfl (by (try simp only [List.map_toArray, List.map_cons, List.map_nil]); first | done | rfl | (simp only [List.length_drop, List.length_take]; rfl)) ?_
                                                  with_reducible refine (split_Splitter_Held.calls g193 x194000_6 x194001_6 x194002_6 t221 t222 t223 t224 w _ ?side1 ?side2 A92.out).mono ?_
                                                  (case side1 => repeat (first | (with_reducible first | exact HI193.out | apply IsS49.alloc | apply IsS49.drewN | apply IsS49.drew | apply IsS49.set_0 | apply IsS49.set_1 | apply IsS49.set_2 | refine IsS49.far ?_ NB193_194.out _ | apply IsS49.far (hne := NB193_194.out)) | exact HI193.out))
                                                  (case side2 => repeat (first | (with_reducible first | exact HB.out | apply below_alloc | apply pw_below_drewN | apply below_drew1 | refine below_set ?_ (IsS49.ge HI193.out) | refine below_set ?_ GE194.out) | exact HB.out))
                                                  rintro e w105 ⟨rfl, hi, hb, hk⟩
                                                  refine ⟨_, rfl, ?_⟩
                                                  have n0_ := Aside0.mk (KeepBut.blk hk (g' := gb194) (o := .cells #[.int .i64 x195000_6, .string x195001_6, .bool true] 36 (0, 0)) (by (with_reducible repeat (first | refine blk_drewN ?_ _ | refine blk_drew ?_ | refine blk_alloc ?_ _)); exact BK194.out) NB194_193.out (by simp))
                                                  have n1_ := Aside0.mk (hb)
                                                  have n2_ := Aside0.mk (hi)
                                                  clear BK194
                                                  clear HB
                                                  clear HI193
                                                  have BK194 := n0_
                                                  have HB := n1_
                                                  have HI193 := n2_
                                                  clear n0_ n1_ n2_
                                                  (try clear hb)
                                                  (try clear hb2)
                                                  (try clear hk)
                                                  (try clear hi)
                                                  refine hK.out _ _ ⟨(blk_cell BK194.out 0).trans rfl, (blk_cell BK194.out 1).trans rfl, (blk_cell BK194.out 2).trans rfl⟩ (fun hHeld => ?_)
                                                  clear hK K
                                                  refine norm_ (a' := ?_) ?_ ?_
                                                  rotate_left
                                                  · show Act.put _ (some 143) _ = _
                                                    simp only [Act.put, List.setIfInBounds_toArray, List.set_cons_zero, List.set_cons_succ, i64_w, i32_w]
                                                    rfl
                                                  refine pure_ (i := 7) (N := some 149) (v := ?_) (a' := ?_) #[true, true, true, true, true, true, true, true, false, false, false, false, false, false, false, false, false] rfl rfl (any_of HT_.out (by kernel_rfl)) (fun _ _ _ h => h) (Or.inl ⟨by rfl, ?_⟩) ?_ ?_
                                                  rotate_left
                                                  · intro w'
                                                    go_simp
                                                    with_reducible rfl
                                                  rotate_left
                                                  · simp only [Act.put, List.setIfInBounds_toArray, List.set_cons_zero, List.set_cons_succ, i64_w, i32_w]
                                                    rfl
                                                  refine pure_ (i := 8) (N := some 150) (v := ?_) (a' := ?_) #[true, true, true, true, true, true, true, true, true, false, false, false, false, false, false, false, false] rfl rfl (any_of HT_.out (by kernel_rfl)) (fun _ _ _ h => h) (Or.inl ⟨by rfl, ?_⟩) ?_ ?_
                                                  rotate_left
                                                  · intro w'
                                                    go_simp
                                                    with_reducible rfl
                                                  rotate_left
                                                  · simp only [Act.put, List.setIfInBounds_toArray, List.set_cons_zero, List.set_cons_succ, i64_w, i32_w]
                                                    rfl
                                                  refine pure_ (i := 9) (N := some 151) (v := ?_) (a' := ?_) #[true, true, true, true, true, true, true, true, true, true, false, false, false, false, false, false, false] rfl rfl (any_of HT_.out (by kernel_rfl)) (fun _ _ _ h => h) (Or.inl ⟨by rfl, ?_⟩) ?_ ?_
                                                  rotate_left
                                                  · intro w'
                                                    go_simp
                                                    with_reducible rfl
                                                  rotate_left
                                                  · simp only [Act.put, List.setIfInBounds_toArray, List.set_cons_zero, List.set_cons_succ, i64_w, i32_w]
                                                    rfl
                                                  refine pure_ (i := 11) (N := some 153) (v := ?_) (a' := ?_) #[true, true, true, true, true, true, true, true, true, true, false, true, false, false, false, false, false] rfl rfl (any_of HT_.out (by kernel_rfl)) (fun _ _ _ h => h) (Or.inl ⟨by rfl, ?_⟩) ?_ ?_
                                                  rotate_left
                                                  · intro w'
                                                    go_simp
                                                    with_reducible rfl
                                                  rotate_left
                                                  · simp only [Act.put, List.setIfInBounds_toArray, List.set_cons_zero, List.set_cons_succ, i64_w, i32_w]
                                                    rfl
                                                  refine pure_ (i := 12) (N := some 154) (v := ?_) (a' := ?_) #[true, true, true, true, true, true, true, true, true, true, false, true, true, false, false, false, false] rfl rfl (any_of HT_.out (by kernel_rfl)) (fun _ _ _ h => h) (Or.inl ⟨by rfl, ?_⟩) ?_ ?_
                                                  rotate_left
                                                  · intro w'
                                                    go_simp
                                                    with_reducible rfl
                                                  rotate_left
                                                  · simp only [Act.put, List.setIfInBounds_toArray, List.set_cons_zero, List.set_cons_succ, i64_w, i32_w]
                                                    rfl
                                                  refine pure_ (i := 13) (N := some 155) (v := ?_) (a' := ?_) #[true, true, true, true, true, true, true, true, true, true, false, true, true, true, false, false, false] rfl rfl (any_of HT_.out (by kernel_rfl)) (fun _ _ _ h => h) (Or.inl ⟨by rfl, ?_⟩) ?_ ?_
                                                  rotate_left
                                                  · intro w'
                                                    go_simp
                                                    with_reducible rfl
                                                  rotate_left
                                                  · simp only [Act.put, List.setIfInBounds_toArray, List.set_cons_zero, List.set_cons_succ, i64_w, i32_w]
                                                    rfl
                                                  refine take_ (i := 14) (N := some 156) (v := ?_) (a' := ?_) #[true, true, true, true, true, true, true, true, true, true, false, true, true, true, true, false, false] rfl rfl (take_ofW HT_.out HW_.out (by kernel_rfl)) (fun _ _ _ h => h) (Or.inl ⟨by rfl, ?_⟩) hHeld ?_ ?_
                                                  rotate_left
                                                  · rintro w' ⟨s0, s1, s2⟩
                                                    go_simp
                                                    with_reducible rfl
                                                  rotate_left
                                                  · simp only [Act.put, List.setIfInBounds_toArray, List.set_cons_zero, List.set_cons_succ, i64_w, i32_w]
                                                    rfl
                                                  refine one_ (i := 10) (N := some 152) #[true, true, true, true, true, true, true, true, true, true, true, true, true, true, true, false, false] rfl rfl (one_of HT_.out (by kernel_rfl)) (by decide) (fun K hK => ?_)
                                                  refine goes_ Try.func14 (by kernel_rfl) rfl #[.pointer (some ⟨g193, 0, none⟩)] (by rfl) rfl rfl (by (try simp only [List.map_toArray, List.map_cons, List.map_nil]); first | done | rfl | (simp only [List.length_drop, List.length_take]; rfl)) ?_
                                                  with_reducible refine (split_Splitter_Over.calls g193 t222 t223 t224 false t226 t227 t228 w _ ?side1 ?side2 A94.out).mono ?_
                                                  (case side1 => repeat (first | (with_reducible first | exact HI193.out | apply IsS49.alloc | apply IsS49.drewN | apply IsS49.drew | apply IsS49.set_0 | apply IsS49.set_1 | apply IsS49.set_2 | refine IsS49.far ?_ NB193_194.out _ | apply IsS49.far (hne := NB193_194.out)) | exact HI193.out))
                                                  (case side2 => repeat (first | (with_reducible first | exact HB.out | apply below_alloc | apply pw_below_drewN | apply below_drew1 | refine below_set ?_ (IsS49.ge HI193.out) | refine below_set ?_ GE194.out) | exact HB.out))
                                                  rintro e w106 ⟨rfl, hi, hb, hk⟩
                                                  refine ⟨_, rfl, ?_⟩
                                                  have n0_ := Aside0.mk (KeepBut.blk hk (g' := gb194) (o := .cells #[.int .i64 x195000_6, .string x195001_6, .bool true] 36 (0, 0)) (by (with_reducible repeat (first | refine blk_drewN ?_ _ | refine blk_drew ?_ | refine blk_alloc ?_ _)); exact BK194.out) NB194_193.out (by simp))
                                                  have n1_ := Aside0.mk (hb)
                                                  have n2_ := Aside0.mk (hi)
                                                  clear BK194
                                                  clear HB
                                                  clear HI193
                                                  have BK194 := n0_
                                                  have HB := n1_
                                                  have HI193 := n2_
                                                  clear n0_ n1_ n2_
                                                  (try clear hb)
                                                  (try clear hb2)
                                                  (try clear hk)
                                                  (try clear hi)
                                                  refine hK.out _ _ ⟨(blk_cell BK194.out 0).trans rfl, (blk_cell BK194.out 1).trans rfl, (blk_cell BK194.out 2).trans rfl⟩ (fun hHeld => ?_)
                                                  clear hK K
                                                  refine norm_ (a' := ?_) ?_ ?_
                                                  rotate_left
                                                  · show Act.put _ (some 152) _ = _
                                                    simp only [Act.put, List.setIfInBounds_toArray, List.set_cons_zero, List.set_cons_succ, i64_w, i32_w]
                                                    rfl
                                                  refine pure_ (i := 15) (N := some 157) (v := ?_) (a' := ?_) #[true, true, true, true, true, true, true, true, true, true, true, true, true, true, true, true, false] rfl rfl (any_of HT_.out (by kernel_rfl)) (fun _ _ _ h => h) (Or.inl ⟨by rfl, ?_⟩) ?_ ?_
                                                  rotate_left
                                                  · intro w'
                                                    go_simp
                                                    with_reducible rfl
                                                  rotate_left
                                                  · simp only [Act.put, List.setIfInBounds_toArray, List.set_cons_zero, List.set_cons_succ, i64_w, i32_w]
                                                    rfl
                                                  refine pure_ (i := 16) (N := some 158) (v := ?_) (a' := ?_) #[true, true, true, true, true, true, true, true, true, true, true, true, true, true, true, true, true] rfl rfl (any_of HT_.out (by kernel_rfl)) (fun _ _ _ h => h) (Or.inl ⟨by rfl, ?_⟩) ?_ ?_
                                                  rotate_left
                                                  · intro w'
                                                    go_simp
                                                    with_reducible rfl
                                                  rotate_left
                                                  · simp only [Act.put, List.setIfInBounds_toArray, List.set_cons_zero, List.set_cons_succ, i64_w, i32_w]
                                                    rfl
                                                  refine done_ (done_of HT_.out (by kernel_rfl)) ?_
                                                  try go_wp2
                                                  go_meet
                                                  case rel => exact ⟨_, (true), (t226), (t227), (t228), (by first | rfl | (simp; done) | (simp [*]; done)), H', ⟨by have := HJ3.out; have := HJ11.out; have := HK3.out; have := HJ20.out; have := HJ29.out; have := HK6.out; first | omega | exact Nat.le_refl _⟩, ⟨by (with_reducible repeat (first | refine blk_drewN ?_ _ | refine blk_drew ?_ | refine blk_alloc ?_ _)); exact BK194.out⟩, ⟨by repeat (first | (with_reducible first | exact HI193.out | apply IsS49.alloc | apply IsS49.drewN | apply IsS49.drew | apply IsS49.set_0 | apply IsS49.set_1 | apply IsS49.set_2 | refine IsS49.far ?_ NB193_194.out _ | apply IsS49.far (hne := NB193_194.out)) | exact HI193.out)⟩, ⟨by repeat (first | (with_reducible first | exact HB.out | apply below_alloc | apply pw_below_drewN | apply below_drew1 | refine below_set ?_ (IsS49.ge HI193.out) | refine below_set ?_ GE194.out) | exact HB.out)⟩⟩
                                                · replace c103 := Bool.eq_false_iff.mpr c103
                                                  subst c103
                                                  have H1 : (bywashlaw8_SplitPlays.j7 k6 l2 l1 (l1.length : Int) x76_3 false t226 t227 t228 x195000_6 x195001_6 false) = some r := by rw [if_neg (show ¬ (false = true) by decide)] at H; exact H
                                                  clear H
                                                  have H := H1
                                                  clear H1
                                                  have H' := Aside0.mk H
                                                  clear H
                                                  try go_wp2
                                                  have n0_ := Aside0.mk (blk_drew BK194.out)
                                                  have n1_ := Aside0.mk (IsS49.drew HI193.out)
                                                  have n2_ := Aside0.mk (below_drew1 HB.out)
                                                  clear BK194
                                                  clear HI193
                                                  clear HB
                                                  have BK194 := n0_
                                                  have HI193 := n1_
                                                  have HB := n2_
                                                  clear n0_ n1_ n2_
                                                  refine start_ (n := 17) (S := fun w' => w'.cell? ⟨gb194, 0, none⟩ = some (.int .i64 x195000_6) ∧ w'.cell? ⟨gb194, 1, none⟩ = some (.string x195001_6) ∧ w'.cell? ⟨gb194, 2, none⟩ = some (.bool false)) (ds := []) #[false, false, false, false, false, false, false, false, false, false, false, false, false, false, false, false, false] (by kernel_rfl) rfl rfl ⟨(blk_cell BK194.out 0).trans rfl, (blk_cell BK194.out 1).trans rfl, (blk_cell BK194.out 2).trans rfl⟩ (fun hHeld => ?_); refine with_tabW bywashlaw8_SplitPlays.tab31 bywashlaw8_SplitPlays.bits31 (fun HT_ HW_ => ?_)
                                                  generalize wr.drew = w107 at BK194 HI193 HB hHeld ⊢
                                                  refine pure_ (i := 0) (N := some 142) (v := ?_) (a' := ?_) #[true, false, false, false, false, false, false, false, false, false, false, false, false, false, false, false, false] rfl rfl (any_of HT_.out (by kernel_rfl)) (fun _ _ _ h => h) (Or.inl ⟨by rfl, ?_⟩) ?_ ?_
                                                  rotate_left
                                                  · intro w'
                                                    go_simp
                                                    with_reducible rfl
                                                  rotate_left
                                                  · simp only [Act.put, List.setIfInBounds_toArray, List.set_cons_zero, List.set_cons_succ, i64_w, i32_w]
                                                    rfl
                                                  refine pure_ (i := 2) (N := some 144) (v := ?_) (a' := ?_) #[true, false, true, false, false, false, false, false, false, false, false, false, false, false, false, false, false] rfl rfl (any_of HT_.out (by kernel_rfl)) (fun _ _ _ h => h) (Or.inl ⟨by rfl, ?_⟩) ?_ ?_
                                                  rotate_left
                                                  · intro w'
                                                    go_simp
                                                    with_reducible rfl
                                                  rotate_left
                                                  · simp only [Act.put, List.setIfInBounds_toArray, List.set_cons_zero, List.set_cons_succ, i64_w, i32_w]
                                                    rfl
                                                  refine pure_ (i := 3) (N := some 145) (v := ?_) (a' := ?_) #[true, false, true, true, false, false, false, false, false, false, false, false, false, false, false, false, false] rfl rfl (any_of HT_.out (by kernel_rfl)) (fun _ _ _ h => h) (Or.inl ⟨by rfl, ?_⟩) ?_ ?_
                                                  rotate_left
                                                  · intro w'
                                                    go_simp
                                                    with_reducible rfl
                                                  rotate_left
                                                  · simp only [Act.put, List.setIfInBounds_toArray, List.set_cons_zero, List.set_cons_succ, i64_w, i32_w]
                                                    rfl
                                                  refine pure_ (i := 4) (N := some 146) (v := ?_) (a' := ?_) #[true, false, true, true, true, false, false, false, false, false, false, false, false, false, false, false, false] rfl rfl (any_of HT_.out (by kernel_rfl)) (fun _ _ _ h => h) (Or.inl ⟨by rfl, ?_⟩) ?_ ?_
                                                  rotate_left
                                                  · intro w'
                                                    go_simp
                                                    with_reducible rfl
                                                  rotate_left
                                                  · simp only [Act.put, List.setIfInBounds_toArray, List.set_cons_zero, List.set_cons_succ, i64_w, i32_w]
                                                    rfl
                                                  refine take_ (i := 5) (N := some 147) (v := ?_) (a' := ?_) #[true, false, true, true, true, true, false, false, false, false, false, false, false, false, false, false, false] rfl rfl (take_ofW HT_.out HW_.out (by kernel_rfl)) (fun _ _ _ h => h) (Or.inl ⟨by rfl, ?_⟩) hHeld ?_ ?_
                                                  rotate_left
                                                  · rintro w' ⟨s0, s1, s2⟩
                                                    go_simp
                                                    with_reducible rfl
                                                  rotate_left
                                                  · simp only [Act.put, List.setIfInBounds_toArray, List.set_cons_zero, List.set_cons_succ, i64_w, i32_w]
                                                    rfl
                                                  refine pure_ (i := 6) (N := some 148) (v := ?_) (a' := ?_) #[true, false, true, true, true, true, true, false, false, false, false, false, false, false, false, false, false] rfl rfl (any_of HT_.out (by kernel_rfl)) (fun _ _ _ h => h) (Or.inl ⟨by rfl, ?_⟩) ?_ ?_
                                                  rotate_left
                                                  · intro w'
                                                    go_simp
                                                    with_reducible rfl
                                                  rotate_left
                                                  · simp only [Act.put, List.setIfInBounds_toArray, List.set_cons_zero, List.set_cons_succ, i64_w, i32_w]
                                                    rfl
                                                  refine one_ (i := 1) (N := some 143) #[true, true, true, true, true, true, true, false, false, false, false, false, false, false, false, false, false] rfl rfl (one_of HT_.out (by kernel_rfl)) (by decide) (fun K hK => ?_)
                                                  refine goes_ Try.func13 (by kernel_rfl) rfl #[.pointer (some ⟨g193, 0, none⟩)] (by rfl) rfl rfl (by (try simp only [List.map_toArray, List.map_cons, List.map_nil]); first | done | rfl | (simp only [List.length_drop, List.length_take]; rfl)) ?_
                                                  with_reducible refine (split_Splitter_Held.calls g193 x194000_6 x194001_6 x194002_6 t221 t222 t223 t224 w _ ?side1 ?side2 A92.out).mono ?_
                                                  (case side1 => repeat (first | (with_reducible first | exact HI193.out | apply IsS49.alloc | apply IsS49.drewN | apply IsS49.drew | apply IsS49.set_0 | apply IsS49.set_1 | apply IsS49.set_2 | refine IsS49.far ?_ NB193_194.out _ | apply IsS49.far (hne := NB193_194.out)) | exact HI193.out))
                                                  (case side2 => repeat (first | (with_reducible first | exact HB.out | apply below_alloc | apply pw_below_drewN | apply below_drew1 | refine below_set ?_ (IsS49.ge HI193.out) | refine below_set ?_ GE194.out) | exact HB.out))
                                                  rintro e w108 ⟨rfl, hi, hb, hk⟩
                                                  refine ⟨_, rfl, ?_⟩
                                                  have n0_ := Aside0.mk (KeepBut.blk hk (g' := gb194) (o := .cells #[.int .i64 x195000_6, .string x195001_6, .bool false] 36 (0, 0)) (by (with_reducible repeat (first | refine blk_drewN ?_ _ | refine blk_drew ?_ | refine blk_alloc ?_ _)); exact BK194.out) NB194_193.out (by simp))
                                                  have n1_ := Aside0.mk (hb)
                                                  have n2_ := Aside0.mk (hi)
                                                  clear BK194
                                                  clear HB
                                                  clear HI193
                                                  have BK194 := n0_
                                                  have HB := n1_
                                                  have HI193 := n2_
                                                  clear n0_ n1_ n2_
                                                  (try clear hb)
                                                  (try clear hb2)
                                                  (try clear hk)
                                                  (try clear hi)
                                                  refine hK.out _ _ ⟨(blk_cell BK194.out 0).trans rfl, (blk_cell BK194.out 1).trans rfl, (blk_cell BK194.out 2).trans rfl⟩ (fun hHeld => ?_)
                                                  clear hK K
                                                  refine norm_ (a' := ?_) ?_ ?_
                                                  rotate_left
                                                  · show Act.put _ (some 143) _ = _
                                                    simp only [Act.put, List.setIfInBounds_toArray, List.set_cons_zero, List.set_cons_succ, i64_w, i32_w]
                                                    rfl
                                                  refine pure_ (i := 7) (N := some 149) (v := ?_) (a' := ?_) #[true, true, true, true, true, true, true, true, false, false, false, false, false, false, false, false, false] rfl rfl (any_of HT_.out (by kernel_rfl)) (fun _ _ _ h => h) (Or.inl ⟨by rfl, ?_⟩) ?_ ?_
                                                  rotate_left
                                                  · intro w'
                                                    go_simp
                                                    with_reducible rfl
                                                  rotate_left
                                                  · simp only [Act.put, List.setIfInBounds_toArray, List.set_cons_zero, List.set_cons_succ, i64_w, i32_w]
                                                    rfl
                                                  refine pure_ (i := 8) (N := some 150) (v := ?_) (a' := ?_) #[true, true, true, true, true, true, true, true, true, false, false, false, false, false, false, false, false] rfl rfl (any_of HT_.out (by kernel_rfl)) (fun _ _ _ h => h) (Or.inl ⟨by rfl, ?_⟩) ?_ ?_
                                                  rotate_left
                                                  · intro w'
                                                    go_simp
                                                    with_reducible rfl
                                                  rotate_left
                                                  · simp only [Act.put, List.setIfInBounds_toArray, List.set_cons_zero, List.set_cons_succ, i64_w, i32_w]
                                                    rfl
                                                  refine pure_ (i := 9) (N := some 151) (v := ?_) (a' := ?_) #[true, true, true, true, true, true, true, true, true, true, false, false, false, false, false, false, false] rfl rfl (any_of HT_.out (by kernel_rfl)) (fun _ _ _ h => h) (Or.inl ⟨by rfl, ?_⟩) ?_ ?_
                                                  rotate_left
                                                  · intro w'
                                                    go_simp
                                                    with_reducible rfl
                                                  rotate_left
                                                  · simp only [Act.put, List.setIfInBounds_toArray, List.set_cons_zero, List.set_cons_succ, i64_w, i32_w]
                                                    rfl
                                                  refine pure_ (i := 11) (N := some 153) (v := ?_) (a' := ?_) #[true, true, true, true, true, true, true, true, true, true, false, true, false, false, false, false, false] rfl rfl (any_of HT_.out (by kernel_rfl)) (fun _ _ _ h => h) (Or.inl ⟨by rfl, ?_⟩) ?_ ?_
                                                  rotate_left
                                                  · intro w'
                                                    go_simp
                                                    with_reducible rfl
                                                  rotate_left
                                                  · simp only [Act.put, List.setIfInBounds_toArray, List.set_cons_zero, List.set_cons_succ, i64_w, i32_w]
                                                    rfl
                                                  refine pure_ (i := 12) (N := some 154) (v := ?_) (a' := ?_) #[true, true, true, true, true, true, true, true, true, true, false, true, true, false, false, false, false] rfl rfl (any_of HT_.out (by kernel_rfl)) (fun _ _ _ h => h) (Or.inl ⟨by rfl, ?_⟩) ?_ ?_
                                                  rotate_left
                                                  · intro w'
                                                    go_simp
                                                    with_reducible rfl
                                                  rotate_left
                                                  · simp only [Act.put, List.setIfInBounds_toArray, List.set_cons_zero, List.set_cons_succ, i64_w, i32_w]
                                                    rfl
                                                  refine pure_ (i := 13) (N := some 155) (v := ?_) (a' := ?_) #[true, true, true, true, true, true, true, true, true, true, false, true, true, true, false, false, false] rfl rfl (any_of HT_.out (by kernel_rfl)) (fun _ _ _ h => h) (Or.inl ⟨by rfl, ?_⟩) ?_ ?_
                                                  rotate_left
                                                  · intro w'
                                                    go_simp
                                                    with_reducible rfl
                                                  rotate_left
                                                  · simp only [Act.put, List.setIfInBounds_toArray, List.set_cons_zero, List.set_cons_succ, i64_w, i32_w]
                                                    rfl
                                                  refine take_ (i := 14) (N := some 156) (v := ?_) (a' := ?_) #[true, true, true, true, true, true, true, true, true, true, false, true, true, true, true, false, false] rfl rfl (take_ofW HT_.out HW_.out (by kernel_rfl)) (fun _ _ _ h => h) (Or.inl ⟨by rfl, ?_⟩) hHeld ?_ ?_
                                                  rotate_left
                                                  · rintro w' ⟨s0, s1, s2⟩
                                                    go_simp
                                                    with_reducible rfl
                                                  rotate_left
                                                  · simp only [Act.put, List.setIfInBounds_toArray, List.set_cons_zero, List.set_cons_succ, i64_w, i32_w]
                                                    rfl
                                                  refine one_ (i := 10) (N := some 152) #[true, true, true, true, true, true, true, true, true, true, true, true, true, true, true, false, false] rfl rfl (one_of HT_.out (by kernel_rfl)) (by decide) (fun K hK => ?_)
                                                  refine goes_ Try.func14 (by kernel_rfl) rfl #[.pointer (some ⟨g193, 0, none⟩)] (by rfl) rfl rfl (by (try simp only [List.map_toArray, List.map_cons, List.map_nil]); first | done | rfl | (simp only [List.length_drop, List.length_take]; rfl)) ?_
                                                  with_reducible refine (split_Splitter_Over.calls g193 t222 t223 t224 false t226 t227 t228 w _ ?side1 ?side2 A94.out).mono ?_
                                                  (case side1 => repeat (first | (with_reducible first | exact HI193.out | apply IsS49.alloc | apply IsS49.drewN | apply IsS49.drew | apply IsS49.set_0 | apply IsS49.set_1 | apply IsS49.set_2 | refine IsS49.far ?_ NB193_194.out _ | apply IsS49.far (hne := NB193_194.out)) | exact HI193.out))
                                                  (case side2 => repeat (first | (with_reducible first | exact HB.out | apply below_alloc | apply pw_below_drewN | apply below_drew1 | refine below_set ?_ (IsS49.ge HI193.out) | refine below_set ?_ GE194.out) | exact HB.out))
                                                  rintro e w109 ⟨rfl, hi, hb, hk⟩
                                                  refine ⟨_, rfl, ?_⟩
                                                  have n0_ := Aside0.mk (KeepBut.blk hk (g' := gb194) (o := .cells #[.int .i64 x195000_6, .string x195001_6, .bool false] 36 (0, 0)) (by (with_reducible repeat (first | refine blk_drewN ?_ _ | refine blk_drew ?_ | refine blk_alloc ?_ _)); exact BK194.out) NB194_193.out (by simp))
                                                  have n1_ := Aside0.mk (hb)
                                                  have n2_ := Aside0.mk (hi)
                                                  clear BK194
                                                  clear HB
                                                  clear HI193
                                                  have BK194 := n0_
                                                  have HB := n1_
                                                  have HI193 := n2_
                                                  clear n0_ n1_ n2_
                                                  (try clear hb)
                                                  (try clear hb2)
                                                  (try clear hk)
                                                  (try clear hi)
                                                  refine hK.out _ _ ⟨(blk_cell BK194.out 0).trans rfl, (blk_cell BK194.out 1).trans rfl, (blk_cell BK194.out 2).trans rfl⟩ (fun hHeld => ?_)
                                                  clear hK K
                                                  refine norm_ (a' := ?_) ?_ ?_
                                                  rotate_left
                                                  · show Act.put _ (some 152) _ = _
                                                    simp only [Act.put, List.setIfInBounds_toArray, List.set_cons_zero, List.set_cons_succ, i64_w, i32_w]
                                                    rfl
                                                  refine pure_ (i := 15) (N := some 157) (v := ?_) (a' := ?_) #[true, true, true, true, true, true, true, true, true, true, true, true, true, true, true, true, false] rfl rfl (any_of HT_.out (by kernel_rfl)) (fun _ _ _ h => h) (Or.inl ⟨by rfl, ?_⟩) ?_ ?_
                                                  rotate_left
                                                  · intro w'
                                                    go_simp
                                                    with_reducible rfl
                                                  rotate_left
                                                  · simp only [Act.put, List.setIfInBounds_toArray, List.set_cons_zero, List.set_cons_succ, i64_w, i32_w]
                                                    rfl
                                                  refine pure_ (i := 16) (N := some 158) (v := ?_) (a' := ?_) #[true, true, true, true, true, true, true, true, true, true, true, true, true, true, true, true, true] rfl rfl (any_of HT_.out (by kernel_rfl)) (fun _ _ _ h => h) (Or.inl ⟨by rfl, ?_⟩) ?_ ?_
                                                  rotate_left
                                                  · intro w'
                                                    go_simp
                                                    with_reducible rfl
                                                  rotate_left
                                                  · simp only [Act.put, List.setIfInBounds_toArray, List.set_cons_zero, List.set_cons_succ, i64_w, i32_w]
                                                    rfl
                                                  refine done_ (done_of HT_.out (by kernel_rfl)) ?_
                                                  try go_wp2
                                                  go_meet
                                                  case rel => exact ⟨_, (false), (t226), (t227), (t228), (by first | rfl | (simp; done) | (simp [*]; done)), H', ⟨by have := HJ3.out; have := HJ11.out; have := HK3.out; have := HJ20.out; have := HJ29.out; have := HK6.out; first | omega | exact Nat.le_refl _⟩, ⟨by (with_reducible repeat (first | refine blk_drewN ?_ _ | refine blk_drew ?_ | refine blk_alloc ?_ _)); exact BK194.out⟩, ⟨by repeat (first | (with_reducible first | exact HI193.out | apply IsS49.alloc | apply IsS49.drewN | apply IsS49.drew | apply IsS49.set_0 | apply IsS49.set_1 | apply IsS49.set_2 | refine IsS49.far ?_ NB193_194.out _ | apply IsS49.far (hne := NB193_194.out)) | exact HI193.out)⟩, ⟨by repeat (first | (with_reducible first | exact HB.out | apply below_alloc | apply pw_below_drewN | apply below_drew1 | refine below_set ?_ (IsS49.ge HI193.out) | refine below_set ?_ GE194.out) | exact HB.out)⟩⟩
                                            · rw [if_neg c93] at H
                                              have c93b0 : (t221 == (x195001_6.size : Int)) = false := beq_eq_false_iff_ne.mpr c93
                                              have c93b1 : (t221 != (x195001_6.size : Int)) = true := bne_iff_ne.mpr c93
                                              (first | rw [c93b0] | (simp only [i64_w, i32_w]; rw [c93b0]) | skip)
                                              have H' := Aside0.mk H
                                              clear H
                                              try go_wp2
                                              have n0_ := Aside0.mk (blk_drew BK194.out)
                                              have n1_ := Aside0.mk (IsS49.drew HI193.out)
                                              have n2_ := Aside0.mk (below_drew1 HB.out)
                                              clear BK194
                                              clear HI193
                                              clear HB
                                              have BK194 := n0_
                                              have HI193 := n1_
                                              have HB := n2_
                                              clear n0_ n1_ n2_
                                              refine start_ (n := 17) (S := fun w' => w'.cell? ⟨gb194, 0, none⟩ = some (.int .i64 x195000_6) ∧ w'.cell? ⟨gb194, 1, none⟩ = some (.string x195001_6) ∧ w'.cell? ⟨gb194, 2, none⟩ = some (.bool x195002_6)) (ds := []) #[false, false, false, false, false, false, false, false, false, false, false, false, false, false, false, false, false] (by kernel_rfl) rfl rfl ⟨(blk_cell BK194.out 0).trans rfl, (blk_cell BK194.out 1).trans rfl, (blk_cell BK194.out 2).trans rfl⟩ (fun hHeld => ?_); refine with_tabW bywashlaw8_SplitPlays.tab31 bywashlaw8_SplitPlays.bits31 (fun HT_ HW_ => ?_)
                                              generalize wr.drew = w110 at BK194 HI193 HB hHeld ⊢
                                              refine pure_ (i := 0) (N := some 142) (v := ?_) (a' := ?_) #[true, false, false, false, false, false, false, false, false, false, false, false, false, false, false, false, false] rfl rfl (any_of HT_.out (by kernel_rfl)) (fun _ _ _ h => h) (Or.inl ⟨by rfl, ?_⟩) ?_ ?_
                                              rotate_left
                                              · intro w'
                                                go_simp
                                                with_reducible rfl
                                              rotate_left
                                              · simp only [Act.put, List.setIfInBounds_toArray, List.set_cons_zero, List.set_cons_succ, i64_w, i32_w]
                                                rfl
                                              refine pure_ (i := 2) (N := some 144) (v := ?_) (a' := ?_) #[true, false, true, false, false, false, false, false, false, false, false, false, false, false, false, false, false] rfl rfl (any_of HT_.out (by kernel_rfl)) (fun _ _ _ h => h) (Or.inl ⟨by rfl, ?_⟩) ?_ ?_
                                              rotate_left
                                              · intro w'
                                                go_simp
                                                with_reducible rfl
                                              rotate_left
                                              · simp only [Act.put, List.setIfInBounds_toArray, List.set_cons_zero, List.set_cons_succ, i64_w, i32_w]
                                                rfl
                                              refine pure_ (i := 3) (N := some 145) (v := ?_) (a' := ?_) #[true, false, true, true, false, false, false, false, false, false, false, false, false, false, false, false, false] rfl rfl (any_of HT_.out (by kernel_rfl)) (fun _ _ _ h => h) (Or.inl ⟨by rfl, ?_⟩) ?_ ?_
                                              rotate_left
                                              · intro w'
                                                go_simp
                                                with_reducible rfl
                                              rotate_left
                                              · simp only [Act.put, List.setIfInBounds_toArray, List.set_cons_zero, List.set_cons_succ, i64_w, i32_w]
                                                rfl
                                              refine pure_ (i := 4) (N := some 146) (v := ?_) (a' := ?_) #[true, false, true, true, true, false, false, false, false, false, false, false, false, false, false, false, false] rfl rfl (any_of HT_.out (by kernel_rfl)) (fun _ _ _ h => h) (Or.inl ⟨by rfl, ?_⟩) ?_ ?_
                                              rotate_left
                                              · intro w'
                                                go_simp
                                                with_reducible rfl
                                              rotate_left
                                              · simp only [Act.put, List.setIfInBounds_toArray, List.set_cons_zero, List.set_cons_succ, i64_w, i32_w]
                                                rfl
                                              refine take_ (i := 5) (N := some 147) (v := ?_) (a' := ?_) #[true, false, true, true, true, true, false, false, false, false, false, false, false, false, false, false, false] rfl rfl (take_ofW HT_.out HW_.out (by kernel_rfl)) (fun _ _ _ h => h) (Or.inl ⟨by rfl, ?_⟩) hHeld ?_ ?_
                                              rotate_left
                                              · rintro w' ⟨s0, s1, s2⟩
                                                go_simp
                                                with_reducible rfl
                                              rotate_left
                                              · simp only [Act.put, List.setIfInBounds_toArray, List.set_cons_zero, List.set_cons_succ, i64_w, i32_w]
                                                rfl
                                              refine pure_ (i := 6) (N := some 148) (v := ?_) (a' := ?_) #[true, false, true, true, true, true, true, false, false, false, false, false, false, false, false, false, false] rfl rfl (any_of HT_.out (by kernel_rfl)) (fun _ _ _ h => h) (Or.inl ⟨by rfl, ?_⟩) ?_ ?_
                                              rotate_left
                                              · intro w'
                                                go_simp
                                                with_reducible rfl
                                              rotate_left
                                              · simp only [Act.put, List.setIfInBounds_toArray, List.set_cons_zero, List.set_cons_succ, i64_w, i32_w]
                                                rfl
                                              refine one_ (i := 1) (N := some 143) #[true, true, true, true, true, true, true, false, false, false, false, false, false, false, false, false, false] rfl rfl (one_of HT_.out (by kernel_rfl)) (by decide) (fun K hK => ?_)
                                              refine goes_ Try.func13 (by kernel_rfl) rfl #[.pointer (some ⟨g193, 0, none⟩)] (by rfl) rfl rfl (by (try simp only [List.map_toArray, List.map_cons, List.map_nil]); first | done | rfl | (simp only [List.length_drop, List.length_take]; rfl)) ?_
                                              with_reducible refine (split_Splitter_Held.calls g193 x194000_6 x194001_6 x194002_6 t221 t222 t223 t224 w _ ?side1 ?side2 A92.out).mono ?_
                                              (case side1 => repeat (first | (with_reducible first | exact HI193.out | apply IsS49.alloc | apply IsS49.drewN | apply IsS49.drew | apply IsS49.set_0 | apply IsS49.set_1 | apply IsS49.set_2 | refine IsS49.far ?_ NB193_194.out _ | apply IsS49.far (hne := NB193_194.out)) | exact HI193.out))
                                              (case side2 => repeat (first | (with_reducible first | exact HB.out | apply below_alloc | apply pw_below_drewN | apply below_drew1 | refine below_set ?_ (IsS49.ge HI193.out) | refine below_set ?_ GE194.out) | exact HB.out))
                                              rintro e w111 ⟨rfl, hi, hb, hk⟩
                                              refine ⟨_, rfl, ?_⟩
                                              have n0_ := Aside0.mk (KeepBut.blk hk (g' := gb194) (o := .cells #[.int .i64 x195000_6, .string x195001_6, .bool x195002_6] 36 (0, 0)) (by (with_reducible repeat (first | refine blk_drewN ?_ _ | refine blk_drew ?_ | refine blk_alloc ?_ _)); exact BK194.out) NB194_193.out (by simp))
                                              have n1_ := Aside0.mk (hb)
                                              have n2_ := Aside0.mk (hi)
                                              clear BK194
                                              clear HB
                                              clear HI193
                                              have BK194 := n0_
                                              have HB := n1_
                                              have HI193 := n2_
                                              clear n0_ n1_ n2_
                                              (try clear hb)
                                              (try clear hb2)
                                              (try clear hk)
                                              (try clear hi)
                                              refine hK.out _ _ ⟨(blk_cell BK194.out 0).trans rfl, (blk_cell BK194.out 1).trans rfl, (blk_cell BK194.out 2).trans rfl⟩ (fun hHeld => ?_)
                                              clear hK K
                                              refine norm_ (a' := ?_) ?_ ?_
                                              rotate_left
                                              · show Act.put _ (some 143) _ = _
                                                simp only [Act.put, List.setIfInBounds_toArray, List.set_cons_zero, List.set_cons_succ, i64_w, i32_w]
                                                rfl
                                              refine pure_ (i := 7) (N := some 149) (v := ?_) (a' := ?_) #[true, true, true, true, true, true, true, true, false, false, false, false, false, false, false, false, false] rfl rfl (any_of HT_.out (by kernel_rfl)) (fun _ _ _ h => h) (Or.inl ⟨by rfl, ?_⟩) ?_ ?_
                                              rotate_left
                                              · intro w'
                                                go_simp
                                                with_reducible rfl
                                              rotate_left
                                              · simp only [Act.put, List.setIfInBounds_toArray, List.set_cons_zero, List.set_cons_succ, i64_w, i32_w]
                                                rfl
                                              refine pure_ (i := 8) (N := some 150) (v := ?_) (a' := ?_) #[true, true, true, true, true, true, true, true, true, false, false, false, false, false, false, false, false] rfl rfl (any_of HT_.out (by kernel_rfl)) (fun _ _ _ h => h) (Or.inl ⟨by rfl, ?_⟩) ?_ ?_
                                              rotate_left
                                              · intro w'
                                                go_simp
                                                with_reducible rfl
                                              rotate_left
                                              · simp only [Act.put, List.setIfInBounds_toArray, List.set_cons_zero, List.set_cons_succ, i64_w, i32_w]
                                                rfl
                                              refine pure_ (i := 9) (N := some 151) (v := undef) (a' := ?_) #[true, true, true, true, true, true, true, true, true, true, false, false, false, false, false, false, false] rfl rfl (any_of HT_.out (by kernel_rfl)) (fun _ _ _ h => h) (Or.inr ⟨by rfl, rfl⟩) ?_ ?_
                                              rotate_left
                                              · simp only [Act.put, List.setIfInBounds_toArray, List.set_cons_zero, List.set_cons_succ, i64_w, i32_w]
                                                rfl
                                              refine pure_ (i := 10) (N := some 152) (v := undef) (a' := ?_) #[true, true, true, true, true, true, true, true, true, true, true, false, false, false, false, false, false] rfl rfl (any_of HT_.out (by kernel_rfl)) (fun _ _ _ h => h) (Or.inr ⟨by rfl, rfl⟩) ?_ ?_
                                              rotate_left
                                              · simp only [Act.put, List.setIfInBounds_toArray, List.set_cons_zero, List.set_cons_succ, i64_w, i32_w]
                                                rfl
                                              refine pure_ (i := 11) (N := some 153) (v := undef) (a' := ?_) #[true, true, true, true, true, true, true, true, true, true, true, true, false, false, false, false, false] rfl rfl (any_of HT_.out (by kernel_rfl)) (fun _ _ _ h => h) (Or.inr ⟨by rfl, rfl⟩) ?_ ?_
                                              rotate_left
                                              · simp only [Act.put, List.setIfInBounds_toArray, List.set_cons_zero, List.set_cons_succ, i64_w, i32_w]
                                                rfl
                                              refine pure_ (i := 12) (N := some 154) (v := undef) (a' := ?_) #[true, true, true, true, true, true, true, true, true, true, true, true, true, false, false, false, false] rfl rfl (any_of HT_.out (by kernel_rfl)) (fun _ _ _ h => h) (Or.inr ⟨by rfl, rfl⟩) ?_ ?_
                                              rotate_left
                                              · simp only [Act.put, List.setIfInBounds_toArray, List.set_cons_zero, List.set_cons_succ, i64_w, i32_w]
                                                rfl
                                              refine pure_ (i := 13) (N := some 155) (v := undef) (a' := ?_) #[true, true, true, true, true, true, true, true, true, true, true, true, true, true, false, false, false] rfl rfl (any_of HT_.out (by kernel_rfl)) (fun _ _ _ h => h) (Or.inr ⟨by rfl, rfl⟩) ?_ ?_
                                              rotate_left
                                              · simp only [Act.put, List.setIfInBounds_toArray, List.set_cons_zero, List.set_cons_succ, i64_w, i32_w]
                                                rfl
                                              refine pure_ (i := 14) (N := some 156) (v := undef) (a' := ?_) #[true, true, true, true, true, true, true, true, true, true, true, true, true, true, true, false, false] rfl rfl (any_of HT_.out (by kernel_rfl)) (fun _ _ _ h => h) (Or.inr ⟨by rfl, rfl⟩) ?_ ?_
                                              rotate_left
                                              · simp only [Act.put, List.setIfInBounds_toArray, List.set_cons_zero, List.set_cons_succ, i64_w, i32_w]
                                                rfl
                                              refine pure_ (i := 15) (N := some 157) (v := undef) (a' := ?_) #[true, true, true, true, true, true, true, true, true, true, true, true, true, true, true, true, false] rfl rfl (any_of HT_.out (by kernel_rfl)) (fun _ _ _ h => h) (Or.inr ⟨by rfl, rfl⟩) ?_ ?_
                                              rotate_left
                                              · simp only [Act.put, List.setIfInBounds_toArray, List.set_cons_zero, List.set_cons_succ, i64_w, i32_w]
                                                rfl
                                              refine pure_ (i := 16) (N := some 158) (v := ?_) (a' := ?_) #[true, true, true, true, true, true, true, true, true, true, true, true, true, true, true, true, true] rfl rfl (any_of HT_.out (by kernel_rfl)) (fun _ _ _ h => h) (Or.inl ⟨by rfl, ?_⟩) ?_ ?_
                                              rotate_left
                                              · intro w'
                                                go_simp
                                                with_reducible rfl
                                              rotate_left
                                              · simp only [Act.put, List.setIfInBounds_toArray, List.set_cons_zero, List.set_cons_succ, i64_w, i32_w]
                                                rfl
                                              refine done_ (done_of HT_.out (by kernel_rfl)) ?_
                                              try go_wp2
                                              go_meet
                                              case rel => exact ⟨_, (true), (t222), (t223), (t224), (by first | rfl | (simp; done) | (simp [*]; done)), H', ⟨by have := HJ3.out; have := HJ11.out; have := HK3.out; have := HJ20.out; have := HJ29.out; have := HK6.out; first | omega | exact Nat.le_refl _⟩, ⟨by (with_reducible repeat (first | refine blk_drewN ?_ _ | refine blk_drew ?_ | refine blk_alloc ?_ _)); exact BK194.out⟩, ⟨by repeat (first | (with_reducible first | exact HI193.out | apply IsS49.alloc | apply IsS49.drewN | apply IsS49.drew | apply IsS49.set_0 | apply IsS49.set_1 | apply IsS49.set_2 | refine IsS49.far ?_ NB193_194.out _ | apply IsS49.far (hne := NB193_194.out)) | exact HI193.out)⟩, ⟨by repeat (first | (with_reducible first | exact HB.out | apply below_alloc | apply pw_below_drewN | apply below_drew1 | refine below_set ?_ (IsS49.ge HI193.out) | refine below_set ?_ GE194.out) | exact HB.out)⟩⟩
                                          case rest =>
                                            clear HC91
                                            try clear c1
                                            try clear p2
                                            try clear c9
                                            try clear c10
                                            try clear c13
                                            try clear c14
                                            try clear c93
                                            try clear c93b0
                                            try clear c93b1
                                            try clear c95
                                            try clear c103
                                            obtain ⟨kq, x158_90, x194000_90, x194001_90, x194002_90, rfl, HA, HJ90, BK194, HI193, HB⟩ := hcut
                                            cases kq with
                                            | zero => exact absurd HA.out (by simp [bywashlaw8_SplitPlays.j7])
                                            | succ kj90 =>
                                              have H := HA.out
                                              clear HA
                                              simp only [bywashlaw8_SplitPlays.j7] at H
                                              by_cases c112 : x158_90 = true
                                              · subst c112
                                                have H1 : (some false) = some r := by rw [if_pos rfl] at H; exact H
                                                clear H
                                                have H := H1
                                                clear H1
                                                obtain rfl := Option.some.inj H
                                                go_wp2
                                                go_ret
                                                exact ⟨by first | rfl | (simp [errW_none, errW_some] <;> rfl) | (simp [*, errW_none, errW_some] <;> rfl), by repeat (first | (with_reducible first | exact HB.out | apply below_alloc | apply pw_below_drewN | apply below_drew1 | refine below_set ?_ (IsS49.ge HI193.out) | refine below_set ?_ GE194.out) | exact HB.out)⟩
                                              · replace c112 := Bool.eq_false_iff.mpr c112
                                                subst c112
                                                have H1 : (bywashlaw8_SplitPlays.l0 kj90 l2 l1 (l1.length : Int) (wrap64 (x76_3 + 1)) x194000_90 x194001_90 x194002_90 x195000_6 x195001_6 x195002_6) = some r := by rw [if_neg (show ¬ (false = true) by decide)] at H; exact H
                                                clear H
                                                have H := H1
                                                clear H1
                                                have H' := Aside0.mk H
                                                clear H
                                                go_wp2
                                                go_roundg kj90
                                                case measure => have := HJ3.out; have := HJ11.out; have := HK3.out; have := HJ20.out; have := HJ29.out; have := HK6.out; have := HJ90.out; omega
                                                case rel => exact ⟨(wrap64 (x76_3 + 1)), (x194000_90), (x194001_90), (x194002_90), (x195000_6), (x195001_6), (x195002_6), (by first | rfl | (simp; done) | (simp [*]; done)), H', ⟨by have := HJ3.out; have := HJ11.out; have := HK3.out; have := HJ20.out; have := HJ29.out; have := HK6.out; have := HJ90.out; omega⟩, ⟨by (with_reducible repeat (first | refine blk_drewN ?_ _ | refine blk_drew ?_ | refine blk_alloc ?_ _)); exact BK194.out⟩, ⟨by repeat (first | (with_reducible first | exact HI193.out | apply IsS49.alloc | apply IsS49.drewN | apply IsS49.drew | apply IsS49.set_0 | apply IsS49.set_1 | apply IsS49.set_2 | refine IsS49.far ?_ NB193_194.out _ | apply IsS49.far (hne := NB193_194.out)) | exact HI193.out)⟩, ⟨by repeat (first | (with_reducible first | exact HB.out | apply below_alloc | apply pw_below_drewN | apply below_drew1 | refine below_set ?_ (IsS49.ge HI193.out) | refine below_set ?_ GE194.out) | exact HB.out)⟩⟩
                              · rw [if_neg c29] at H
                                have c29b0 : (t196 == x15_20) = false := beq_eq_false_iff_ne.mpr c29
                                have c29b1 : (t196 != x15_20) = true := bne_iff_ne.mpr c29
                                obtain rfl := Option.some.inj H
                                go_wp2_with (first | ((with_reducible refine gate_callee (f := 12) rfl ?_); refine goesL_ (some 100) rfl rfl Try.func12 (by kernel_rfl) rfl #[.pointer (some ⟨g193, 0, none⟩), .string (rdOf ByteArray.empty l1 x76_3)] rfl (by (try simp only [List.map_toArray, List.map_cons, List.map_nil]); first | done | rfl | (simp only [List.length_drop, List.length_take]; rfl)) ?_; (with_reducible refine (split_Splitter_Feed.calls g193 x194000_3 x194001_3 x194002_3 (rdOf ByteArray.empty l1 x76_3) t196 t197 t198 t199 w _ ?side1 ?side2 A28.out).mono ?_); (case side1 => repeat (first | (with_reducible first | exact HI193.out | apply IsS49.alloc | apply IsS49.drewN | apply IsS49.drew | apply IsS49.set_0 | apply IsS49.set_1 | apply IsS49.set_2 | refine IsS49.far ?_ NB193_194.out _ | apply IsS49.far (hne := NB193_194.out)) | exact HI193.out)); (case side2 => repeat (first | (with_reducible first | exact HB.out | apply below_alloc | apply pw_below_drewN | apply below_drew1 | refine below_set ?_ (IsS49.ge HI193.out) | refine below_set ?_ GE194.out) | exact HB.out)); rintro e w113 ⟨rfl, hi, hb, hk⟩; refine ⟨_, rfl, ?_⟩; have n0_ := Aside0.mk (KeepBut.blk hk (g' := gb194) (o := .cells #[.int .i64 x195000_3, .string x195001_20, .bool x195002_3] 36 (0, 0)) (by (with_reducible repeat (first | refine blk_drewN ?_ _ | refine blk_drew ?_ | refine blk_alloc ?_ _)); exact BK194.out) NB194_193.out (by simp)); have n1_ := Aside0.mk (hb); have n2_ := Aside0.mk (hi); clear BK194; clear HB; clear HI193; have BK194 := n0_; have HB := n1_; have HI193 := n2_; clear n0_ n1_ n2_; (try clear hb); (try clear hb2); (try clear hk); (try clear hi)))
                                go_ret
                                exact ⟨by first | rfl | (simp [errW_none, errW_some] <;> rfl) | (simp [*, errW_none, errW_some] <;> rfl), by repeat (first | (with_reducible first | exact HB.out | apply below_alloc | apply pw_below_drewN | apply below_drew1 | refine below_set ?_ (IsS49.ge HI193.out) | refine below_set ?_ GE194.out) | exact HB.out)⟩
                      · rw [if_neg c19] at H
                        exact absurd H (by simp)
                    · rw [if_neg c18] at H
                      exact absurd H (by simp)
                  · rw [if_neg c17] at H
                    have c17b0 : decide (x76_3 < (l1.length : Int)) = false := decide_eq_false c17
                    clear c17
                    obtain rfl := Option.some.inj H
                    go_wp2
                    go_ret
                    exact ⟨by first | rfl | (simp [errW_none, errW_some] <;> rfl) | (simp [*, errW_none, errW_some] <;> rfl), by repeat (first | (with_reducible first | exact HB.out | apply below_alloc | apply pw_below_drewN | apply below_drew1 | refine below_set ?_ (IsS49.ge HI193.out) | refine below_set ?_ GE194.out) | exact HB.out)⟩

end Go.Proofs.Ytcbikdnibjjnbaa.PSplitPlays
