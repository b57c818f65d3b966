-- Written by a program of this session (the kit's printer, turned): the functions that the law reaches.
import Derived.Test.YtkakcalabpobpaaPPingPlaysx0
import Derived.Test.YtkakcalabpobpaaPPingPlaysx1
import Derived.Test.YtkakcalabpobpaaPPingPlaysx2
import Derived.Test.YtkakcalabpobpaaPPingPlaysx3
namespace Go.Proofs.Ytkakcalabpobpaa.PPingPlays
open Go.RowKit Go.Proofs.YtkakcalabpobpaaW.PrintWords Go.Proofs.YtkakcalabpobpaaW.PrintLast Go.Proofs.YtkakcalabpobpaaW.PrintMore
attribute [local go_sem] max2_int min2_int max_two min_two max_three min_three max_four min_four   -- for this text's walks alone
set_option linter.unusedVariables false
set_option linter.unusedSimpArgs false

/-! ### bywashlaw17_PingPlays: function 3 -/
mutual
def bywashlaw17_PingPlays.j0 : Nat → Int → Int → List (S34) → Bool → Option (Bool)
  | 0, _, _, _, _ => none
  | k + 1, x0, x1, x2, x25 => if x25 = true then ((bywashlaw17_alive.f k).bind fun t176 => (some t176)) else ((ping_New.f x0 x1).bind fun bt177 => (if x0 < 1 then (bywashlaw17_PingPlays.j1 k x0 x1 x2 true bt177.1 bt177.2.1 bt177.2.2.1 bt177.2.2.2.1 bt177.2.2.2.2.1 bt177.2.2.2.2.2) else (bywashlaw17_PingPlays.j1 k x0 x1 x2 (decide (x1 < 1)) bt177.1 bt177.2.1 bt177.2.2.1 bt177.2.2.2.1 bt177.2.2.2.2.1 bt177.2.2.2.2.2)))
def bywashlaw17_PingPlays.j1 : Nat → Int → Int → List (S34) → Bool → Int → Int → Int → Int → Bool → Bool → Option (Bool)
  | 0, _, _, _, _, _, _, _, _, _, _ => none
  | k + 1, x0, x1, x2, x35, x184000, x184001, x184002, x184003, x184004, x184005 => if x35 = true then (none) else (bywashlaw17_PingPlays.l0 k (⟨#[]⟩ : ByteArray) x2 (x2.length : Int) 0 x184000 x184001 x184002 x184003 x184004 x184005 x0 x1 0 0 0 false)
def bywashlaw17_PingPlays.l0 : Nat → ByteArray → List (S34) → Int → Int → Int → Int → Int → Int → Bool → Bool → Int → Int → Int → Int → Int → Bool → Option (Bool)
  | 0, _, _, _, _, _, _, _, _, _, _, _, _, _, _, _, _ => none
  | k + 1, x12, x72, x73, x74, x184000, x184001, x184002, x184003, x184004, x184005, x185000, x185001, x185002, x185003, x185004, x185005 => if x74 < x73 then (if 0 ≤ x74 then (if x74 < (x72.length : Int) then (if (((rd_T34 x72 x74).f1).size : Int) > 40 then (some true) else (if ((rd_T34 x72 x74).f0) = 1 then ((ping_Health_Tick.f k x184000 x184001 x184002 x184003 x184004 x184005).bind fun bt187 => ((bywashref1_Health_Tick.f k x185000 x185001 x185002 x185003 x185004 x185005).bind fun bt195 => (if bt187.1.toList = bt195.1.toList then (if bt187.2.1 = true then (if bt195.2.1 = true then (bywashlaw17_PingPlays.j3 k x12 bt187.1 x72 x73 x74 false bt187.2.2.1 bt187.2.2.2.1 bt187.2.2.2.2.1 bt187.2.2.2.2.2.1 bt187.2.2.2.2.2.2.1 bt187.2.2.2.2.2.2.2 bt195.2.2.1 bt195.2.2.2.1 bt195.2.2.2.2.1 bt195.2.2.2.2.2.1 bt195.2.2.2.2.2.2.1 bt195.2.2.2.2.2.2.2) else (bywashlaw17_PingPlays.j3 k x12 bt187.1 x72 x73 x74 true bt187.2.2.1 bt187.2.2.2.1 bt187.2.2.2.2.1 bt187.2.2.2.2.2.1 bt187.2.2.2.2.2.2.1 bt187.2.2.2.2.2.2.2 bt195.2.2.1 bt195.2.2.2.1 bt195.2.2.2.2.1 bt195.2.2.2.2.2.1 bt195.2.2.2.2.2.2.1 bt195.2.2.2.2.2.2.2)) else (if bt195.2.1 = true then (bywashlaw17_PingPlays.j3 k x12 bt187.1 x72 x73 x74 true bt187.2.2.1 bt187.2.2.2.1 bt187.2.2.2.2.1 bt187.2.2.2.2.2.1 bt187.2.2.2.2.2.2.1 bt187.2.2.2.2.2.2.2 bt195.2.2.1 bt195.2.2.2.1 bt195.2.2.2.2.1 bt195.2.2.2.2.2.1 bt195.2.2.2.2.2.2.1 bt195.2.2.2.2.2.2.2) else (bywashlaw17_PingPlays.j3 k x12 bt187.1 x72 x73 x74 false bt187.2.2.1 bt187.2.2.2.1 bt187.2.2.2.2.1 bt187.2.2.2.2.2.1 bt187.2.2.2.2.2.2.1 bt187.2.2.2.2.2.2.2 bt195.2.2.1 bt195.2.2.2.1 bt195.2.2.2.2.1 bt195.2.2.2.2.2.1 bt195.2.2.2.2.2.2.1 bt195.2.2.2.2.2.2.2))) else (bywashlaw17_PingPlays.j3 k x12 bt187.1 x72 x73 x74 true bt187.2.2.1 bt187.2.2.2.1 bt187.2.2.2.2.1 bt187.2.2.2.2.2.1 bt187.2.2.2.2.2.2.1 bt187.2.2.2.2.2.2.2 bt195.2.2.1 bt195.2.2.2.1 bt195.2.2.2.2.1 bt195.2.2.2.2.2.1 bt195.2.2.2.2.2.2.1 bt195.2.2.2.2.2.2.2)))) else (if ((rd_T34 x72 x74).f0) = 2 then ((ping_Health_Got.f k x184000 x184001 x184002 x184003 x184004 x184005 x12).bind fun bt203 => ((bywashref1_Health_Got.f k x185000 x185001 x185002 x185003 x185004 x185005 x12).bind fun bt210 => (if bt203.1 = true then (if bt210.1 = true then (bywashlaw17_PingPlays.j4 k x12 x72 x73 x74 bt203.2.1 bt203.2.2.1 bt203.2.2.2.1 bt203.2.2.2.2.1 bt203.2.2.2.2.2.1 bt203.2.2.2.2.2.2 bt210.2.1 bt210.2.2.1 bt210.2.2.2.1 bt210.2.2.2.2.1 bt210.2.2.2.2.2.1 bt210.2.2.2.2.2.2) else (some false)) else (if bt210.1 = true then (some false) else (bywashlaw17_PingPlays.j4 k x12 x72 x73 x74 bt203.2.1 bt203.2.2.1 bt203.2.2.2.1 bt203.2.2.2.2.1 bt203.2.2.2.2.2.1 bt203.2.2.2.2.2.2 bt210.2.1 bt210.2.2.1 bt210.2.2.2.1 bt210.2.2.2.2.1 bt210.2.2.2.2.2.1 bt210.2.2.2.2.2.2))))) else (if ((rd_T34 x72 x74).f0) = 3 then ((ping_Health_Got.f k x184000 x184001 x184002 x184003 x184004 x184005 ((rd_T34 x72 x74).f1)).bind fun bt217 => ((bywashref1_Health_Got.f k x185000 x185001 x185002 x185003 x185004 x185005 ((rd_T34 x72 x74).f1)).bind fun bt224 => (if bt217.1 = true then (if bt224.1 = true then (bywashlaw17_PingPlays.j4 k x12 x72 x73 x74 bt217.2.1 bt217.2.2.1 bt217.2.2.2.1 bt217.2.2.2.2.1 bt217.2.2.2.2.2.1 bt217.2.2.2.2.2.2 bt224.2.1 bt224.2.2.1 bt224.2.2.2.1 bt224.2.2.2.2.1 bt224.2.2.2.2.2.1 bt224.2.2.2.2.2.2) else (some false)) else (if bt224.1 = true then (some false) else (bywashlaw17_PingPlays.j4 k x12 x72 x73 x74 bt217.2.1 bt217.2.2.1 bt217.2.2.2.1 bt217.2.2.2.2.1 bt217.2.2.2.2.2.1 bt217.2.2.2.2.2.2 bt224.2.1 bt224.2.2.1 bt224.2.2.2.1 bt224.2.2.2.2.1 bt224.2.2.2.2.2.1 bt224.2.2.2.2.2.2))))) else (bywashlaw17_PingPlays.j4 k x12 x72 x73 x74 x184000 x184001 x184002 x184003 x184004 x184005 x185000 x185001 x185002 x185003 x185004 x185005))))) else (none)) else (none)) else (some true)
def bywashlaw17_PingPlays.j4 : Nat → ByteArray → List (S34) → Int → Int → Int → Int → Int → Int → Bool → Bool → Int → Int → Int → Int → Int → Bool → Option (Bool)
  | 0, _, _, _, _, _, _, _, _, _, _, _, _, _, _, _, _ => none
  | k + 1, x12, x72, x73, x74, x184000, x184001, x184002, x184003, x184004, x184005, x185000, x185001, x185002, x185003, x185004, x185005 => (ping_Health_Waits.f x184000 x184001 x184002 x184003 x184004 x184005).bind fun bt231 => (if bt231.1 = true then (if x185002 > 0 then ((ping_Health_Sent.f bt231.2.1 bt231.2.2.1 bt231.2.2.2.1 bt231.2.2.2.2.1 bt231.2.2.2.2.2.1 bt231.2.2.2.2.2.2).bind fun bt238 => (bywashlaw17_PingPlays.j5 k x12 x72 x73 x74 (bt238.1 != x185004) bt238.2.1 bt238.2.2.1 bt238.2.2.2.1 bt238.2.2.2.2.1 bt238.2.2.2.2.2.1 bt238.2.2.2.2.2.2 x185000 x185001 x185002 x185003 x185004 x185005)) else (bywashlaw17_PingPlays.j5 k x12 x72 x73 x74 true bt231.2.1 bt231.2.2.1 bt231.2.2.2.1 bt231.2.2.2.2.1 bt231.2.2.2.2.2.1 bt231.2.2.2.2.2.2 x185000 x185001 x185002 x185003 x185004 x185005)) else (if x185002 > 0 then (bywashlaw17_PingPlays.j5 k x12 x72 x73 x74 true bt231.2.1 bt231.2.2.1 bt231.2.2.2.1 bt231.2.2.2.2.1 bt231.2.2.2.2.2.1 bt231.2.2.2.2.2.2 x185000 x185001 x185002 x185003 x185004 x185005) else ((ping_Health_Sent.f bt231.2.1 bt231.2.2.1 bt231.2.2.2.1 bt231.2.2.2.2.1 bt231.2.2.2.2.2.1 bt231.2.2.2.2.2.2).bind fun bt245 => (bywashlaw17_PingPlays.j5 k x12 x72 x73 x74 (bt245.1 != x185004) bt245.2.1 bt245.2.2.1 bt245.2.2.2.1 bt245.2.2.2.2.1 bt245.2.2.2.2.2.1 bt245.2.2.2.2.2.2 x185000 x185001 x185002 x185003 x185004 x185005))))
def bywashlaw17_PingPlays.j5 : Nat → ByteArray → List (S34) → Int → Int → Bool → Int → Int → Int → Int → Bool → Bool → Int → Int → Int → Int → Int → Bool → Option (Bool)
  | 0, _, _, _, _, _, _, _, _, _, _, _, _, _, _, _, _, _ => none
  | k + 1, x12, x72, x73, x74, x143, x184000, x184001, x184002, x184003, x184004, x184005, x185000, x185001, x185002, x185003, x185004, x185005 => if x143 = true then (some false) else (bywashlaw17_PingPlays.l0 k x12 x72 x73 (wrap64 (x74 + 1)) x184000 x184001 x184002 x184003 x184004 x184005 x185000 x185001 x185002 x185003 x185004 x185005)
def bywashlaw17_PingPlays.j3 : Nat → ByteArray → ByteArray → List (S34) → Int → Int → Bool → Int → Int → Int → Int → Bool → Bool → Int → Int → Int → Int → Int → Bool → Option (Bool)
  | 0, _, _, _, _, _, _, _, _, _, _, _, _, _, _, _, _, _, _ => none
  | k + 1, x12, x15, x72, x73, x74, x103, x184000, x184001, x184002, x184003, x184004, x184005, x185000, x185001, x185002, x185003, x185004, x185005 => if x103 = true then (some false) else (if x15.toList = ([] : List UInt8) then (bywashlaw17_PingPlays.j4 k x12 x72 x73 x74 x184000 x184001 x184002 x184003 x184004 x184005 x185000 x185001 x185002 x185003 x185004 x185005) else (bywashlaw17_PingPlays.j4 k x15 x72 x73 x74 x184000 x184001 x184002 x184003 x184004 x184005 x185000 x185001 x185002 x185003 x185004 x185005))
end
def bywashlaw17_PingPlays.f (k : Nat) (a0 : Int) (a1 : Int) (l2 : List (S34)) : Option (Bool) := if (l2.length : Int) > 300 then (bywashlaw17_PingPlays.j0 k a0 a1 l2 true) else ((bywashlaw17_alive.f k).bind fun t175 => (bywashlaw17_PingPlays.j0 k a0 a1 l2 (!t175)))
theorem bywashlaw17_PingPlays.mono_l : ∀ k, (∀ y0 y1 y2 y3, LeO (bywashlaw17_PingPlays.j0 k y0 y1 y2 y3) (bywashlaw17_PingPlays.j0 (k + 1) y0 y1 y2 y3)) ∧ (∀ y0 y1 y2 y3 y4 y5 y6 y7 y8 y9, LeO (bywashlaw17_PingPlays.j1 k y0 y1 y2 y3 y4 y5 y6 y7 y8 y9) (bywashlaw17_PingPlays.j1 (k + 1) y0 y1 y2 y3 y4 y5 y6 y7 y8 y9)) ∧ (∀ y0 y1 y2 y3 y4 y5 y6 y7 y8 y9 y10 y11 y12 y13 y14 y15, LeO (bywashlaw17_PingPlays.l0 k y0 y1 y2 y3 y4 y5 y6 y7 y8 y9 y10 y11 y12 y13 y14 y15) (bywashlaw17_PingPlays.l0 (k + 1) y0 y1 y2 y3 y4 y5 y6 y7 y8 y9 y10 y11 y12 y13 y14 y15)) ∧ (∀ y0 y1 y2 y3 y4 y5 y6 y7 y8 y9 y10 y11 y12 y13 y14 y15, LeO (bywashlaw17_PingPlays.j4 k y0 y1 y2 y3 y4 y5 y6 y7 y8 y9 y10 y11 y12 y13 y14 y15) (bywashlaw17_PingPlays.j4 (k + 1) y0 y1 y2 y3 y4 y5 y6 y7 y8 y9 y10 y11 y12 y13 y14 y15)) ∧ (∀ y0 y1 y2 y3 y4 y5 y6 y7 y8 y9 y10 y11 y12 y13 y14 y15 y16, LeO (bywashlaw17_PingPlays.j5 k y0 y1 y2 y3 y4 y5 y6 y7 y8 y9 y10 y11 y12 y13 y14 y15 y16) (bywashlaw17_PingPlays.j5 (k + 1) y0 y1 y2 y3 y4 y5 y6 y7 y8 y9 y10 y11 y12 y13 y14 y15 y16)) ∧ (∀ y0 y1 y2 y3 y4 y5 y6 y7 y8 y9 y10 y11 y12 y13 y14 y15 y16 y17, LeO (bywashlaw17_PingPlays.j3 k y0 y1 y2 y3 y4 y5 y6 y7 y8 y9 y10 y11 y12 y13 y14 y15 y16 y17) (bywashlaw17_PingPlays.j3 (k + 1) y0 y1 y2 y3 y4 y5 y6 y7 y8 y9 y10 y11 y12 y13 y14 y15 y16 y17))
  | 0 => ⟨fun _ _ _ _ r h => by simp [bywashlaw17_PingPlays.j0] at h, fun _ _ _ _ _ _ _ _ _ _ r h => by simp [bywashlaw17_PingPlays.j1] at h, fun _ _ _ _ _ _ _ _ _ _ _ _ _ _ _ _ r h => by simp [bywashlaw17_PingPlays.l0] at h, fun _ _ _ _ _ _ _ _ _ _ _ _ _ _ _ _ r h => by simp [bywashlaw17_PingPlays.j4] at h, fun _ _ _ _ _ _ _ _ _ _ _ _ _ _ _ _ _ r h => by simp [bywashlaw17_PingPlays.j5] at h, fun _ _ _ _ _ _ _ _ _ _ _ _ _ _ _ _ _ _ r h => by simp [bywashlaw17_PingPlays.j3] at h⟩
  | k + 1 => by
    obtain ⟨ih0, ih1, ih2, ih3, ih4, ih5⟩ := bywashlaw17_PingPlays.mono_l k
    refine ⟨?_, ?_, ?_, ?_, ?_, ?_⟩
    · intro y0 y1 y2 y3
      unfold bywashlaw17_PingPlays.j0
      repeat' first
      | (with_reducible exact ih0 _ _ _ _)
      | (with_reducible exact ih1 _ _ _ _ _ _ _ _ _ _)
      | (with_reducible exact ih2 _ _ _ _ _ _ _ _ _ _ _ _ _ _ _ _)
      | (with_reducible exact ih3 _ _ _ _ _ _ _ _ _ _ _ _ _ _ _ _)
      | (with_reducible exact ih4 _ _ _ _ _ _ _ _ _ _ _ _ _ _ _ _ _)
      | (with_reducible exact ih5 _ _ _ _ _ _ _ _ _ _ _ _ _ _ _ _ _ _)
      | (with_reducible exact bywashlaw17_alive.mono _)
      | (with_reducible exact bywashref1_Health_Got.mono _ _ _ _ _ _ _ _)
      | (with_reducible exact bywashref1_Health_Tick.mono _ _ _ _ _ _ _)
      | (with_reducible exact ping_Health_Got.mono _ _ _ _ _ _ _ _)
      | (with_reducible exact ping_Health_Tick.mono _ _ _ _ _ _ _)
      | (with_reducible exact LeO.refl _)
      | (with_reducible exact LeO.none _)
      | (with_reducible refine LeO.ite ?_ ?_)
      | (with_reducible refine LeO.bind ?_ (fun _ => ?_))
      | exact ih0 _ _ _ _
      | exact ih1 _ _ _ _ _ _ _ _ _ _
      | exact ih2 _ _ _ _ _ _ _ _ _ _ _ _ _ _ _ _
      | exact ih3 _ _ _ _ _ _ _ _ _ _ _ _ _ _ _ _
      | exact ih4 _ _ _ _ _ _ _ _ _ _ _ _ _ _ _ _ _
      | exact ih5 _ _ _ _ _ _ _ _ _ _ _ _ _ _ _ _ _ _
      | exact bywashlaw17_alive.mono _
      | exact bywashref1_Health_Got.mono _ _ _ _ _ _ _ _
      | exact bywashref1_Health_Tick.mono _ _ _ _ _ _ _
      | exact ping_Health_Got.mono _ _ _ _ _ _ _ _
      | exact ping_Health_Tick.mono _ _ _ _ _ _ _
      | exact LeO.none _
      | refine LeO.ite ?_ ?_
      | refine LeO.bind ?_ (fun _ => ?_)
    · intro y0 y1 y2 y3 y4 y5 y6 y7 y8 y9
      unfold bywashlaw17_PingPlays.j1
      repeat' first
      | (with_reducible exact ih0 _ _ _ _)
      | (with_reducible exact ih1 _ _ _ _ _ _ _ _ _ _)
      | (with_reducible exact ih2 _ _ _ _ _ _ _ _ _ _ _ _ _ _ _ _)
      | (with_reducible exact ih3 _ _ _ _ _ _ _ _ _ _ _ _ _ _ _ _)
      | (with_reducible exact ih4 _ _ _ _ _ _ _ _ _ _ _ _ _ _ _ _ _)
      | (with_reducible exact ih5 _ _ _ _ _ _ _ _ _ _ _ _ _ _ _ _ _ _)
      | (with_reducible exact bywashlaw17_alive.mono _)
      | (with_reducible exact bywashref1_Health_Got.mono _ _ _ _ _ _ _ _)
      | (with_reducible exact bywashref1_Health_Tick.mono _ _ _ _ _ _ _)
      | (with_reducible exact ping_Health_Got.mono _ _ _ _ _ _ _ _)
      | (with_reducible exact ping_Health_Tick.mono _ _ _ _ _ _ _)
      | (with_reducible exact LeO.refl _)
      | (with_reducible exact LeO.none _)
      | (with_reducible refine LeO.ite ?_ ?_)
      | (with_reducible refine LeO.bind ?_ (fun _ => ?_))
      | exact ih0 _ _ _ _
      | exact ih1 _ _ _ _ _ _ _ _ _ _
      | exact ih2 _ _ _ _ _ _ _ _ _ _ _ _ _ _ _ _
      | exact ih3 _ _ _ _ _ _ _ _ _ _ _ _ _ _ _ _
      | exact ih4 _ _ _ _ _ _ _ _ _ _ _ _ _ _ _ _ _
      | exact ih5 _ _ _ _ _ _ _ _ _ _ _ _ _ _ _ _ _ _
      | exact bywashlaw17_alive.mono _
      | exact bywashref1_Health_Got.mono _ _ _ _ _ _ _ _
      | exact bywashref1_Health_Tick.mono _ _ _ _ _ _ _
      | exact ping_Health_Got.mono _ _ _ _ _ _ _ _
      | exact ping_Health_Tick.mono _ _ _ _ _ _ _
      | exact LeO.none _
      | refine LeO.ite ?_ ?_
      | refine LeO.bind ?_ (fun _ => ?_)
    · intro y0 y1 y2 y3 y4 y5 y6 y7 y8 y9 y10 y11 y12 y13 y14 y15
      unfold bywashlaw17_PingPlays.l0
      repeat' first
      | (with_reducible exact ih0 _ _ _ _)
      | (with_reducible exact ih1 _ _ _ _ _ _ _ _ _ _)
      | (with_reducible exact ih2 _ _ _ _ _ _ _ _ _ _ _ _ _ _ _ _)
      | (with_reducible exact ih3 _ _ _ _ _ _ _ _ _ _ _ _ _ _ _ _)
      | (with_reducible exact ih4 _ _ _ _ _ _ _ _ _ _ _ _ _ _ _ _ _)
      | (with_reducible exact ih5 _ _ _ _ _ _ _ _ _ _ _ _ _ _ _ _ _ _)
      | (with_reducible exact bywashlaw17_alive.mono _)
      | (with_reducible exact bywashref1_Health_Got.mono _ _ _ _ _ _ _ _)
      | (with_reducible exact bywashref1_Health_Tick.mono _ _ _ _ _ _ _)
      | (with_reducible exact ping_Health_Got.mono _ _ _ _ _ _ _ _)
      | (with_reducible exact ping_Health_Tick.mono _ _ _ _ _ _ _)
      | (with_reducible exact LeO.refl _)
      | (with_reducible exact LeO.none _)
      | (with_reducible refine LeO.ite ?_ ?_)
      | (with_reducible refine LeO.bind ?_ (fun _ => ?_))
      | exact ih0 _ _ _ _
      | exact ih1 _ _ _ _ _ _ _ _ _ _
      | exact ih2 _ _ _ _ _ _ _ _ _ _ _ _ _ _ _ _
      | exact ih3 _ _ _ _ _ _ _ _ _ _ _ _ _ _ _ _
      | exact ih4 _ _ _ _ _ _ _ _ _ _ _ _ _ _ _ _ _
      | exact ih5 _ _ _ _ _ _ _ _ _ _ _ _ _ _ _ _ _ _
      | exact bywashlaw17_alive.mono _
      | exact bywashref1_Health_Got.mono _ _ _ _ _ _ _ _
      | exact bywashref1_Health_Tick.mono _ _ _ _ _ _ _
      | exact ping_Health_Got.mono _ _ _ _ _ _ _ _
      | exact ping_Health_Tick.mono _ _ _ _ _ _ _
      | exact LeO.none _
      | refine LeO.ite ?_ ?_
      | refine LeO.bind ?_ (fun _ => ?_)
    · intro y0 y1 y2 y3 y4 y5 y6 y7 y8 y9 y10 y11 y12 y13 y14 y15
      unfold bywashlaw17_PingPlays.j4
      repeat' first
      | (with_reducible exact ih0 _ _ _ _)
      | (with_reducible exact ih1 _ _ _ _ _ _ _ _ _ _)
      | (with_reducible exact ih2 _ _ _ _ _ _ _ _ _ _ _ _ _ _ _ _)
      | (with_reducible exact ih3 _ _ _ _ _ _ _ _ _ _ _ _ _ _ _ _)
      | (with_reducible exact ih4 _ _ _ _ _ _ _ _ _ _ _ _ _ _ _ _ _)
      | (with_reducible exact ih5 _ _ _ _ _ _ _ _ _ _ _ _ _ _ _ _ _ _)
      | (with_reducible exact bywashlaw17_alive.mono _)
      | (with_reducible exact bywashref1_Health_Got.mono _ _ _ _ _ _ _ _)
      | (with_reducible exact bywashref1_Health_Tick.mono _ _ _ _ _ _ _)
      | (with_reducible exact ping_Health_Got.mono _ _ _ _ _ _ _ _)
      | (with_reducible exact ping_Health_Tick.mono _ _ _ _ _ _ _)
      | (with_reducible exact LeO.refl _)
      | (with_reducible exact LeO.none _)
      | (with_reducible refine LeO.ite ?_ ?_)
      | (with_reducible refine LeO.bind ?_ (fun _ => ?_))
      | exact ih0 _ _ _ _
      | exact ih1 _ _ _ _ _ _ _ _ _ _
      | exact ih2 _ _ _ _ _ _ _ _ _ _ _ _ _ _ _ _
      | exact ih3 _ _ _ _ _ _ _ _ _ _ _ _ _ _ _ _
      | exact ih4 _ _ _ _ _ _ _ _ _ _ _ _ _ _ _ _ _
      | exact ih5 _ _ _ _ _ _ _ _ _ _ _ _ _ _ _ _ _ _
      | exact bywashlaw17_alive.mono _
      | exact bywashref1_Health_Got.mono _ _ _ _ _ _ _ _
      | exact bywashref1_Health_Tick.mono _ _ _ _ _ _ _
      | exact ping_Health_Got.mono _ _ _ _ _ _ _ _
      | exact ping_Health_Tick.mono _ _ _ _ _ _ _
      | exact LeO.none _
      | refine LeO.ite ?_ ?_
      | refine LeO.bind ?_ (fun _ => ?_)
    · intro y0 y1 y2 y3 y4 y5 y6 y7 y8 y9 y10 y11 y12 y13 y14 y15 y16
      unfold bywashlaw17_PingPlays.j5
      repeat' first
      | (with_reducible exact ih0 _ _ _ _)
      | (with_reducible exact ih1 _ _ _ _ _ _ _ _ _ _)
      | (with_reducible exact ih2 _ _ _ _ _ _ _ _ _ _ _ _ _ _ _ _)
      | (with_reducible exact ih3 _ _ _ _ _ _ _ _ _ _ _ _ _ _ _ _)
      | (with_reducible exact ih4 _ _ _ _ _ _ _ _ _ _ _ _ _ _ _ _ _)
      | (with_reducible exact ih5 _ _ _ _ _ _ _ _ _ _ _ _ _ _ _ _ _ _)
      | (with_reducible exact bywashlaw17_alive.mono _)
      | (with_reducible exact bywashref1_Health_Got.mono _ _ _ _ _ _ _ _)
      | (with_reducible exact bywashref1_Health_Tick.mono _ _ _ _ _ _ _)
      | (with_reducible exact ping_Health_Got.mono _ _ _ _ _ _ _ _)
      | (with_reducible exact ping_Health_Tick.mono _ _ _ _ _ _ _)
      | (with_reducible exact LeO.refl _)
      | (with_reducible exact LeO.none _)
      | (with_reducible refine LeO.ite ?_ ?_)
      | (with_reducible refine LeO.bind ?_ (fun _ => ?_))
      | exact ih0 _ _ _ _
      | exact ih1 _ _ _ _ _ _ _ _ _ _
      | exact ih2 _ _ _ _ _ _ _ _ _ _ _ _ _ _ _ _
      | exact ih3 _ _ _ _ _ _ _ _ _ _ _ _ _ _ _ _
      | exact ih4 _ _ _ _ _ _ _ _ _ _ _ _ _ _ _ _ _
      | exact ih5 _ _ _ _ _ _ _ _ _ _ _ _ _ _ _ _ _ _
      | exact bywashlaw17_alive.mono _
      | exact bywashref1_Health_Got.mono _ _ _ _ _ _ _ _
      | exact bywashref1_Health_Tick.mono _ _ _ _ _ _ _
      | exact ping_Health_Got.mono _ _ _ _ _ _ _ _
      | exact ping_Health_Tick.mono _ _ _ _ _ _ _
      | exact LeO.none _
      | refine LeO.ite ?_ ?_
      | refine LeO.bind ?_ (fun _ => ?_)
    · intro y0 y1 y2 y3 y4 y5 y6 y7 y8 y9 y10 y11 y12 y13 y14 y15 y16 y17
      unfold bywashlaw17_PingPlays.j3
      repeat' first
      | (with_reducible exact ih0 _ _ _ _)
      | (with_reducible exact ih1 _ _ _ _ _ _ _ _ _ _)
      | (with_reducible exact ih2 _ _ _ _ _ _ _ _ _ _ _ _ _ _ _ _)
      | (with_reducible exact ih3 _ _ _ _ _ _ _ _ _ _ _ _ _ _ _ _)
      | (with_reducible exact ih4 _ _ _ _ _ _ _ _ _ _ _ _ _ _ _ _ _)
      | (with_reducible exact ih5 _ _ _ _ _ _ _ _ _ _ _ _ _ _ _ _ _ _)
      | (with_reducible exact bywashlaw17_alive.mono _)
      | (with_reducible exact bywashref1_Health_Got.mono _ _ _ _ _ _ _ _)
      | (with_reducible exact bywashref1_Health_Tick.mono _ _ _ _ _ _ _)
      | (with_reducible exact ping_Health_Got.mono _ _ _ _ _ _ _ _)
      | (with_reducible exact ping_Health_Tick.mono _ _ _ _ _ _ _)
      | (with_reducible exact LeO.refl _)
      | (with_reducible exact LeO.none _)
      | (with_reducible refine LeO.ite ?_ ?_)
      | (with_reducible refine LeO.bind ?_ (fun _ => ?_))
      | exact ih0 _ _ _ _
      | exact ih1 _ _ _ _ _ _ _ _ _ _
      | exact ih2 _ _ _ _ _ _ _ _ _ _ _ _ _ _ _ _
      | exact ih3 _ _ _ _ _ _ _ _ _ _ _ _ _ _ _ _
      | exact ih4 _ _ _ _ _ _ _ _ _ _ _ _ _ _ _ _ _
      | exact ih5 _ _ _ _ _ _ _ _ _ _ _ _ _ _ _ _ _ _
      | exact bywashlaw17_alive.mono _
      | exact bywashref1_Health_Got.mono _ _ _ _ _ _ _ _
      | exact bywashref1_Health_Tick.mono _ _ _ _ _ _ _
      | exact ping_Health_Got.mono _ _ _ _ _ _ _ _
      | exact ping_Health_Tick.mono _ _ _ _ _ _ _
      | exact LeO.none _
      | refine LeO.ite ?_ ?_
      | refine LeO.bind ?_ (fun _ => ?_)
theorem bywashlaw17_PingPlays.mono : ∀ a0 a1 a2 k, LeO (bywashlaw17_PingPlays.f k a0 a1 a2) (bywashlaw17_PingPlays.f (k + 1) a0 a1 a2) := by
  intro a0 a1 a2 k
  obtain ⟨ih0, ih1, ih2, ih3, ih4, ih5⟩ := bywashlaw17_PingPlays.mono_l k
  unfold bywashlaw17_PingPlays.f
  repeat' first
      | (with_reducible exact ih0 _ _ _ _)
      | (with_reducible exact ih1 _ _ _ _ _ _ _ _ _ _)
      | (with_reducible exact ih2 _ _ _ _ _ _ _ _ _ _ _ _ _ _ _ _)
      | (with_reducible exact ih3 _ _ _ _ _ _ _ _ _ _ _ _ _ _ _ _)
      | (with_reducible exact ih4 _ _ _ _ _ _ _ _ _ _ _ _ _ _ _ _ _)
      | (with_reducible exact ih5 _ _ _ _ _ _ _ _ _ _ _ _ _ _ _ _ _ _)
      | (with_reducible exact bywashlaw17_alive.mono _)
      | (with_reducible exact bywashref1_Health_Got.mono _ _ _ _ _ _ _ _)
      | (with_reducible exact bywashref1_Health_Tick.mono _ _ _ _ _ _ _)
      | (with_reducible exact ping_Health_Got.mono _ _ _ _ _ _ _ _)
      | (with_reducible exact ping_Health_Tick.mono _ _ _ _ _ _ _)
      | (with_reducible exact LeO.refl _)
      | (with_reducible exact LeO.none _)
      | (with_reducible refine LeO.ite ?_ ?_)
      | (with_reducible refine LeO.bind ?_ (fun _ => ?_))
      | exact ih0 _ _ _ _
      | exact ih1 _ _ _ _ _ _ _ _ _ _
      | exact ih2 _ _ _ _ _ _ _ _ _ _ _ _ _ _ _ _
      | exact ih3 _ _ _ _ _ _ _ _ _ _ _ _ _ _ _ _
      | exact ih4 _ _ _ _ _ _ _ _ _ _ _ _ _ _ _ _ _
      | exact ih5 _ _ _ _ _ _ _ _ _ _ _ _ _ _ _ _ _ _
      | exact bywashlaw17_alive.mono _
      | exact bywashref1_Health_Got.mono _ _ _ _ _ _ _ _
      | exact bywashref1_Health_Tick.mono _ _ _ _ _ _ _
      | exact ping_Health_Got.mono _ _ _ _ _ _ _ _
      | exact ping_Health_Tick.mono _ _ _ _ _ _ _
      | exact LeO.none _
      | refine LeO.ite ?_ ?_
      | refine LeO.bind ?_ (fun _ => ?_)
def bywashlaw17_PingPlays.T29 : Bool × List (List Nat × List Nat) := (true, [([], []), ([], []), ([1], [1]), ([0, 2], [0, 2]), ([], []), ([], []), ([5], [5]), ([4, 6, 3], [4, 6]), ([3, 7], [3, 7])])
def bywashlaw17_PingPlays.B29 : List Nat := [0, 0, 2, 7, 0, 0, 32, 127, 255]
theorem bywashlaw17_PingPlays.tab29 : rtab .any (opsOf Try.f3 29) = bywashlaw17_PingPlays.T29 := by kernel_rfl
theorem bywashlaw17_PingPlays.bits29 : waitsOk bywashlaw17_PingPlays.T29.2 bywashlaw17_PingPlays.B29 = true := by kernel_rfl
def bywashlaw17_PingPlays.T31 : Bool × List (List Nat × List Nat) := (true, [([], []), ([0], [0]), ([], []), ([2], [2]), ([3], [3]), ([4], [4]), ([5], [5]), ([1, 6], [1, 6]), ([7, 1], [7]), ([8], [8]), ([9, 8, 8], [8, 9]), ([8], [8]), ([11, 8], [8, 11]), ([12, 8], [8, 12]), ([13, 8], [8, 13]), ([10, 14, 8], [8, 10, 14]), ([8, 15], [8, 15])])
def bywashlaw17_PingPlays.B31 : List Nat := [0, 1, 0, 4, 12, 28, 60, 127, 255, 511, 1023, 511, 2559, 6655, 14847, 32767, 65535]
theorem bywashlaw17_PingPlays.tab31 : rtab .any (opsOf Try.f3 31) = bywashlaw17_PingPlays.T31 := by kernel_rfl
theorem bywashlaw17_PingPlays.bits31 : waitsOk bywashlaw17_PingPlays.T31.2 bywashlaw17_PingPlays.B31 = true := by kernel_rfl
set_option maxHeartbeats 8000000 in
set_option maxRecDepth 100000 in
theorem bywashlaw17_PingPlays.calls (k : Nat) (a0 : Int) (a1 : Int) (A2 : Option Addr) (c2 : Nat) (l2 : List (S34)) (r : Bool) (w : World) (hr2 : Kd.C k34 w A2 l2.length l2) (hc2 : l2.length ≤ c2) (h : bywashlaw17_PingPlays.f k a0 a1 l2 = some r) :
    Calls Try.prog 3 #[.int .i64 a0, .int .i64 a1, .slice A2 l2.length c2] w fun e w' => e = .returned (.bool r) ∧ Below w.heap.size w w' := by
  have hu32 := Try.underlying32
  have hu34 := Try.underlying34
  have HR2 := Aside0.mk hr2
  have HC2 := Aside0.mk hc2
  clear hr2 hc2
  have HB := Aside0.mk (Below.refl w.heap.size w)
  have H : (if (l2.length : Int) > 300 then (bywashlaw17_PingPlays.j0 k a0 a1 l2 true) else ((bywashlaw17_alive.f k).bind fun t175 => (bywashlaw17_PingPlays.j0 k a0 a1 l2 (!t175)))) = some r := h
  clear h
  have HC4 := Aside0.mk H
  clear H
  go_enter Try.func3, Try.ntmps3
  go_upto_region 1 with (fail)
  go_cut [25] (fun v25 wc => ∃ (kq : Nat) (x25_3 : Bool), v25 = .bool x25_3 ∧ Aside0 (bywashlaw17_PingPlays.j0 kq a0 a1 l2 x25_3 = some r) ∧ Aside0 (kq ≤ k) ∧ Aside0 (Below w.heap.size w wc))
  case first =>
    have H := HC4.out
    clear HC4
    by_cases c5 : (l2.length : Int) > 300
    · rw [if_pos c5] at H
      have c5b0 : decide (300 < (l2.length : Int)) = true := decide_eq_true c5
      have c5b1 : decide (300 < l2.length) = true := decide_eq_true (by omega)
      clear c5
      (first | rw [c5b0] | (simp only [i64_w, i32_w]; rw [c5b0]) | skip)
      have H' := Aside0.mk H
      clear H
      go_wp2
      go_meet
      case rel => exact ⟨_, (true), (by first | rfl | (simp; done) | (simp [*]; done)), H', ⟨by first | omega | exact Nat.le_refl _⟩, ⟨by repeat (first | (with_reducible first | exact HB.out | apply below_alloc | apply pw_below_drewN | apply below_drew1) | exact HB.out)⟩⟩
    · rw [if_neg c5] at H
      have c5b0 : decide (300 < (l2.length : Int)) = false := decide_eq_false c5
      have c5b1 : decide (300 < l2.length) = false := decide_eq_false (by omega)
      clear c5
      (first | rw [c5b0] | (simp only [i64_w, i32_w]; rw [c5b0]) | skip)
      replace H := Option.bind_eq_some_iff.mp H
      obtain ⟨t175, A60, H⟩ := H
      replace H : (bywashlaw17_PingPlays.j0 k a0 a1 l2 (!t175)) = some r := H
      have A6 := Aside0.mk A60
      clear A60
      have H' := Aside0.mk H
      clear H
      go_wp2_with (first | (go_at_call 8; (with_reducible refine (bywashlaw17_alive.calls k  t175 _ A6.out).mono ?_); rintro e w7 ⟨rfl, hb⟩; have n0_ := Aside0.mk (below_step (by repeat (first | (with_reducible first | exact HB.out | apply below_alloc | apply pw_below_drewN | apply below_drew1) | exact HB.out)) hb); clear HB; have HB := n0_; clear n0_; (try clear hb); (try clear hb2); (try clear hk); (try clear hi)))
      go_meet
      case rel => exact ⟨_, (!t175), (by first | rfl | (simp; done) | (simp [*]; done)), H', ⟨by first | omega | exact Nat.le_refl _⟩, ⟨by repeat (first | (with_reducible first | exact HB.out | apply below_alloc | apply pw_below_drewN | apply below_drew1) | exact HB.out)⟩⟩
  case rest =>
    clear HC4
    try clear c2
    try clear p2
    try clear c3
    try clear c5
    try clear c5b0
    try clear c5b1
    obtain ⟨kq, x25_3, rfl, HA, HJ3, HB⟩ := hcut
    cases kq with
    | zero => exact absurd HA.out (by simp [bywashlaw17_PingPlays.j0])
    | succ kj3 =>
      have H := HA.out
      clear HA
      simp only [bywashlaw17_PingPlays.j0] at H
      by_cases c8 : x25_3 = true
      · subst c8
        have H1 : ((bywashlaw17_alive.f kj3).bind fun t176 => (some t176)) = some r := by rw [if_pos rfl] at H; exact H
        clear H
        have H := H1
        clear H1
        replace H := Option.bind_eq_some_iff.mp H
        obtain ⟨t176, A90, H⟩ := H
        replace H : (some t176) = some r := H
        have A9 := Aside0.mk A90
        clear A90
        obtain rfl := Option.some.inj H
        go_wp2_with (first | ((with_reducible refine gate_callee (f := 8) rfl ?_); refine goesL_ (some 26) rfl rfl Try.func8 (by kernel_rfl) rfl #[] rfl (by (try simp only [List.map_toArray, List.map_cons, List.map_nil]); first | done | rfl | (simp only [List.length_drop, List.length_take]; rfl)) ?_; (with_reducible refine (bywashlaw17_alive.calls kj3  t176 _ A9.out).mono ?_); rintro e w10 ⟨rfl, hb⟩; refine ⟨_, rfl, ?_⟩; have n0_ := Aside0.mk (below_step (by repeat (first | (with_reducible first | exact HB.out | apply below_alloc | apply pw_below_drewN | apply below_drew1) | exact HB.out)) hb); clear HB; have HB := n0_; clear n0_; (try clear hb); (try clear hb2); (try clear hk); (try clear hi)))
        go_ret
        exact ⟨by first | rfl | (simp [errW_none, errW_some] <;> rfl) | (simp [*, errW_none, errW_some] <;> rfl), by repeat (first | (with_reducible first | exact HB.out | apply below_alloc | apply pw_below_drewN | apply below_drew1) | exact HB.out)⟩
      · replace c8 := Bool.eq_false_iff.mpr c8
        subst c8
        have H1 : ((ping_New.f a0 a1).bind fun bt177 => (if a0 < 1 then (bywashlaw17_PingPlays.j1 kj3 a0 a1 l2 true bt177.1 bt177.2.1 bt177.2.2.1 bt177.2.2.2.1 bt177.2.2.2.2.1 bt177.2.2.2.2.2) else (bywashlaw17_PingPlays.j1 kj3 a0 a1 l2 (decide (a1 < 1)) bt177.1 bt177.2.1 bt177.2.2.1 bt177.2.2.2.1 bt177.2.2.2.2.1 bt177.2.2.2.2.2))) = some r := by rw [if_neg (show ¬ (false = true) by decide)] at H; exact H
        clear H
        have H := H1
        clear H1
        replace H := Option.bind_eq_some_iff.mp H
        obtain ⟨⟨t177, t178, t179, t180, t181, t182⟩, A110, H⟩ := H
        replace H : (if a0 < 1 then (bywashlaw17_PingPlays.j1 kj3 a0 a1 l2 true t177 t178 t179 t180 t181 t182) else (bywashlaw17_PingPlays.j1 kj3 a0 a1 l2 (decide (a1 < 1)) t177 t178 t179 t180 t181 t182)) = some r := H
        have A11 := Aside0.mk A110
        clear A110
        have HC12 := Aside0.mk H
        clear H
        go_upto_region 4 with (first | ((with_reducible refine gate_callee (f := 9) rfl ?_); refine goesL_ (some 29) rfl rfl Try.func9 (by kernel_rfl) rfl #[.int .i64 a0, .int .i64 a1] rfl (by (try simp only [List.map_toArray, List.map_cons, List.map_nil]); first | done | rfl | (simp only [List.length_drop, List.length_take]; rfl)) ?_; (with_reducible refine (ping_New.calls a0 a1 t177 t178 t179 t180 t181 t182 w _ ?side1 A11.out).mono ?_); (case side1 => repeat (first | (with_reducible first | exact HB.out | apply below_alloc | apply pw_below_drewN | apply below_drew1) | exact HB.out)); rintro e w13 ⟨g183, rfl, hi, hb, hb2⟩; refine ⟨_, rfl, ?_⟩; have n0_ := Aside0.mk (hb); have n1_ := Aside0.mk (hi); clear HB; have HB := n0_; have HI183 := n1_; clear n0_ n1_; (try clear hb); (try clear hb2); (try clear hk); (try clear hi)))
        (try simp only [Act.put, List.setIfInBounds_toArray, List.set_cons_zero, List.set_cons_succ])
        go_cut [35] (fun v35 wc => ∃ (kq : Nat) (x35_11 : Bool), v35 = .bool x35_11 ∧ Aside0 (bywashlaw17_PingPlays.j1 kq a0 a1 l2 x35_11 t177 t178 t179 t180 t181 t182 = some r) ∧ Aside0 (kq ≤ kj3) ∧ Aside0 (IsS42 w wc g183 t177 t178 t179 t180 t181 t182) ∧ Aside0 (Below w.heap.size w wc))
        case first =>
          have H := HC12.out
          clear HC12
          by_cases c14 : a0 < 1
          · rw [if_pos c14] at H
            have c14b0 : decide (a0 < 1) = true := decide_eq_true c14
            clear c14
            (first | rw [c14b0] | (simp only [i64_w, i32_w]; rw [c14b0]) | skip)
            have H' := Aside0.mk H
            clear H
            go_wp2
            go_meet
            case rel => exact ⟨_, (true), (by first | rfl | (simp; done) | (simp [*]; done)), H', ⟨by have := HJ3.out; first | omega | exact Nat.le_refl _⟩, ⟨by repeat (first | (with_reducible first | exact HI183.out | apply IsS42.alloc | apply IsS42.drewN | apply IsS42.drew | apply IsS42.set_0 | apply IsS42.set_1 | apply IsS42.set_2 | apply IsS42.set_3 | apply IsS42.set_4 | apply IsS42.set_5) | exact HI183.out)⟩, ⟨by repeat (first | (with_reducible first | exact HB.out | apply below_alloc | apply pw_below_drewN | apply below_drew1 | refine below_set ?_ (IsS42.ge HI183.out)) | exact HB.out)⟩⟩
          · rw [if_neg c14] at H
            have c14b0 : decide (a0 < 1) = false := decide_eq_false c14
            clear c14
            (first | rw [c14b0] | (simp only [i64_w, i32_w]; rw [c14b0]) | skip)
            have H' := Aside0.mk H
            clear H
            go_wp2
            go_meet
            case rel => exact ⟨_, (decide (a1 < 1)), (by first | rfl | (simp; done) | (simp [*]; done)), H', ⟨by have := HJ3.out; first | omega | exact Nat.le_refl _⟩, ⟨by repeat (first | (with_reducible first | exact HI183.out | apply IsS42.alloc | apply IsS42.drewN | apply IsS42.drew | apply IsS42.set_0 | apply IsS42.set_1 | apply IsS42.set_2 | apply IsS42.set_3 | apply IsS42.set_4 | apply IsS42.set_5) | exact HI183.out)⟩, ⟨by repeat (first | (with_reducible first | exact HB.out | apply below_alloc | apply pw_below_drewN | apply below_drew1 | refine below_set ?_ (IsS42.ge HI183.out)) | exact HB.out)⟩⟩
        case rest =>
          clear HC12
          try clear c1
          try clear c2
          try clear p2
          try clear c3
          try clear c5
          try clear c5b0
          try clear c5b1
          try clear c8
          try clear c9
          try clear c14
          try clear c14b0
          try clear p2
          obtain ⟨kq, x35_11, rfl, HA, HJ11, HI183, HB⟩ := hcut
          cases kq with
          | zero => exact absurd HA.out (by simp [bywashlaw17_PingPlays.j1])
          | succ kj11 =>
            have H := HA.out
            clear HA
            simp only [bywashlaw17_PingPlays.j1] at H
            by_cases c15 : x35_11 = true
            · subst c15
              have H1 : (none) = some r := by rw [if_pos rfl] at H; exact H
              clear H
              have H := H1
              clear H1
              exact absurd H (by simp)
            · replace c15 := Bool.eq_false_iff.mpr c15
              subst c15
              have H1 : (bywashlaw17_PingPlays.l0 kj11 (⟨#[]⟩ : ByteArray) l2 (l2.length : Int) 0 t177 t178 t179 t180 t181 t182 a0 a1 0 0 0 false) = some r := by rw [if_neg (show ¬ (false = true) by decide)] at H; exact H
              clear H
              have H := H1
              clear H1
              have H' := Aside0.mk H
              clear H
              go_wp2_with (first | ((with_reducible refine gate_dst (N := 71) rfl ?_); refine box_event ?hg (N := 71) ?hd (cs := #[.int .i64 a0, .int .i64 a1, .int .i64 0, .int .i64 0, .int .i64 0, .bool false]) (t := 32) ?hr ?_; (case hd => rfl); (case hg => rfl); (case hr => first | (go_simp; done) | (go_simp; rfl)); intro gb184 hg w16 hbox hb; have n0_ := Aside0.mk (IsS42.below (by repeat (first | (with_reducible first | exact HI183.out | apply IsS42.alloc | apply IsS42.drewN | apply IsS42.drew | apply IsS42.set_0 | apply IsS42.set_1 | apply IsS42.set_2 | apply IsS42.set_3 | apply IsS42.set_4 | apply IsS42.set_5) | exact HI183.out)) hb); have n1_ := Aside0.mk (below_step (by repeat (first | (with_reducible first | exact HB.out | apply below_alloc | apply pw_below_drewN | apply below_drew1 | refine below_set ?_ (IsS42.ge HI183.out)) | exact HB.out)) hb); have n2_ := Aside0.mk (hbox); have n3_ := Aside0.mk ((by rw [hg]; exact (below_size (by repeat (first | (with_reducible first | exact HB.out | apply below_alloc | apply pw_below_drewN | apply below_drew1 | refine below_set ?_ (IsS42.ge HI183.out)) | exact HB.out))) : w.heap.size ≤ gb184)); have n4_ := Aside0.mk ((by rw [hg]; exact (below_size (by repeat (first | (with_reducible first | exact HB.out | apply below_alloc | apply pw_below_drewN | apply below_drew1 | refine below_set ?_ (IsS42.ge HI183.out)) | exact HB.out))) : w.heap.size ≤ gb184)); have n5_ := Aside0.mk ((by rw [hg]; exact Nat.ne_of_lt (IsS42.lt (show IsS42 w _ g183 t177 t178 t179 t180 t181 t182 from by repeat (first | (with_reducible first | exact HI183.out | apply IsS42.alloc | apply IsS42.drewN | apply IsS42.drew | apply IsS42.set_0 | apply IsS42.set_1 | apply IsS42.set_2 | apply IsS42.set_3 | apply IsS42.set_4 | apply IsS42.set_5) | exact HI183.out))) : g183 ≠ gb184)); have n6_ := Aside0.mk ((by rw [hg]; exact Nat.ne_of_gt (IsS42.lt (show IsS42 w _ g183 t177 t178 t179 t180 t181 t182 from by repeat (first | (with_reducible first | exact HI183.out | apply IsS42.alloc | apply IsS42.drewN | apply IsS42.drew | apply IsS42.set_0 | apply IsS42.set_1 | apply IsS42.set_2 | apply IsS42.set_3 | apply IsS42.set_4 | apply IsS42.set_5) | exact HI183.out))) : gb184 ≠ g183)); clear HI183; clear HB; have HI183 := n0_; have HB := n1_; have BK184 := n2_; have GW184 := n3_; have GE184 := n4_; have NB183_184 := n5_; have NB184_183 := n6_; clear n0_ n1_ n2_ n3_ n4_ n5_ n6_; clear hb hbox hg))
              go_loopg [12, 74] kj11 (fun kq v12 v74 w' => ∃ (x12_3 : ByteArray) (x74_3 : Int) (x184000_3 : Int) (x184001_3 : Int) (x184002_3 : Int) (x184003_3 : Int) (x184004_3 : Bool) (x184005_3 : Bool) (x185000_3 : Int) (x185001_3 : Int) (x185002_3 : Int) (x185003_3 : Int) (x185004_3 : Int) (x185005_3 : Bool), v12 = .string x12_3 ∧ v74 = .int .i64 x74_3 ∧ Aside0 (bywashlaw17_PingPlays.l0 kq x12_3 l2 (l2.length : Int) x74_3 x184000_3 x184001_3 x184002_3 x184003_3 x184004_3 x184005_3 x185000_3 x185001_3 x185002_3 x185003_3 x185004_3 x185005_3 = some r) ∧ Aside0 (kq ≤ kj11) ∧ Aside0 (w'.heap[gb184]? = some (.cells #[.int .i64 x185000_3, .int .i64 x185001_3, .int .i64 x185002_3, .int .i64 x185003_3, .int .i64 x185004_3, .bool x185005_3] 32 (0, 0))) ∧ Aside0 (IsS42 w w' g183 x184000_3 x184001_3 x184002_3 x184003_3 x184004_3 x184005_3) ∧ Aside0 (Below w.heap.size w w'))
              case atStart => exact ⟨((⟨#[]⟩ : ByteArray)), (0), (t177), (t178), (t179), (t180), (t181), (t182), (a0), (a1), (0), (0), (0), (false), (by first | rfl | (simp; done) | (simp [*]; done)), (by first | rfl | (simp; done) | (simp [*]; done)), H', ⟨Nat.le_refl _⟩, ⟨by (with_reducible repeat (first | refine blk_drewN ?_ _ | refine blk_drew ?_ | refine blk_alloc ?_ _)); exact BK184.out⟩, ⟨by repeat (first | (with_reducible first | exact HI183.out | apply IsS42.alloc | apply IsS42.drewN | apply IsS42.drew | apply IsS42.set_0 | apply IsS42.set_1 | apply IsS42.set_2 | apply IsS42.set_3 | apply IsS42.set_4 | apply IsS42.set_5 | refine IsS42.far ?_ NB183_184.out _) | exact HI183.out)⟩, ⟨by repeat (first | (with_reducible first | exact HB.out | apply below_alloc | apply pw_below_drewN | apply below_drew1 | refine below_set ?_ (IsS42.ge HI183.out) | refine below_set ?_ GE184.out) | exact HB.out)⟩⟩
              case round =>
                clear H'
                try clear c1
                try clear c2
                try clear p2
                try clear c3
                try clear c5
                try clear c5b0
                try clear c5b1
                try clear c8
                try clear c9
                try clear c14
                try clear c14b0
                try clear c15
                try clear p2
                obtain ⟨x12_3, x74_3, x184000_3, x184001_3, x184002_3, x184003_3, x184004_3, x184005_3, x185000_3, x185001_3, x185002_3, x185003_3, x185004_3, x185005_3, rfl, rfl, HA, HK3, BK184, HI183, HB⟩ := hrel
                cases gk with
                | zero => exact absurd HA.out (by simp [bywashlaw17_PingPlays.l0])
                | succ k3 =>
                  have H := HA.out
                  clear HA
                  simp only [bywashlaw17_PingPlays.l0] at H
                  by_cases c17 : x74_3 < (l2.length : Int)
                  · rw [if_pos c17] at H
                    have c17b0 : decide (x74_3 < (l2.length : Int)) = true := decide_eq_true c17
                    clear c17
                    by_cases c18 : 0 ≤ x74_3
                    · rw [if_pos c18] at H
                      have c18b0 : decide (0 ≤ x74_3) = true := decide_eq_true c18
                      clear c18
                      by_cases c19 : x74_3 < (l2.length : Int)
                      · rw [if_pos c19] at H
                        have c19b0 : decide (x74_3 < (l2.length : Int)) = true := decide_eq_true c19
                        clear c19
                        by_cases c20 : (((rd_T34 l2 x74_3).f1).size : Int) > 40
                        · rw [if_pos c20] at H
                          have c20b0 : decide (40 < (((rd_T34 l2 x74_3).f1).size : Int)) = true := decide_eq_true c20
                          have c20b1 : decide (40 < ((rd_T34 l2 x74_3).f1).size) = true := decide_eq_true (by omega)
                          clear c20
                          obtain rfl := Option.some.inj H
                          have p185 : 0 ≤ (x74_3 : Int) := of_decide_eq_true (by first | (with_reducible assumption) | assumption)
                          have q185 : x74_3 < (l2.length : Int) := of_decide_eq_true (by first | (with_reducible assumption) | assumption)
                          obtain ⟨ad185, e185, hx185_0, hx185_1⟩ := at_T34 HR2.out x74_3 p185 q185
                          cases e185
                          replace hx185_0 := (HB.out.cell (World.block_lt_of_cell? w _ hx185_0)).trans hx185_0
                          replace hx185_1 := (HB.out.cell (World.block_lt_of_cell? w _ hx185_1)).trans hx185_1
                          replace p185 := eq_true p185
                          replace q185 := eq_true q185
                          go_wp2_with (first | ((with_reducible refine gate_dst (N := 14) rfl ?_); refine box_event ?hg (N := 14) ?hd (cs := #[.int .i64 0, .string (⟨#[]⟩ : ByteArray)]) (t := 34) ?hr ?_; (case hd => rfl); (case hg => rfl); (case hr => first | (go_simp; done) | (go_simp; rfl)); intro gb186 hg w21 hbox hb; have n0_ := Aside0.mk (blk_below (g := gb184) (o := .cells #[.int .i64 x185000_3, .int .i64 x185001_3, .int .i64 x185002_3, .int .i64 x185003_3, .int .i64 x185004_3, .bool x185005_3] 32 (0, 0)) (by (with_reducible repeat (first | refine blk_drewN ?_ _ | refine blk_drew ?_ | refine blk_alloc ?_ _)); exact BK184.out) hb); have n1_ := Aside0.mk (IsS42.below (by repeat (first | (with_reducible first | exact HI183.out | apply IsS42.alloc | apply IsS42.drewN | apply IsS42.drew | apply IsS42.set_0 | apply IsS42.set_1 | apply IsS42.set_2 | apply IsS42.set_3 | apply IsS42.set_4 | apply IsS42.set_5 | refine IsS42.far ?_ NB183_184.out _) | exact HI183.out)) hb); have n2_ := Aside0.mk (below_step (by repeat (first | (with_reducible first | exact HB.out | apply below_alloc | apply pw_below_drewN | apply below_drew1 | refine below_set ?_ (IsS42.ge HI183.out) | refine below_set ?_ GE184.out) | exact HB.out)) hb); have n3_ := Aside0.mk (hbox); have n4_ := Aside0.mk ((by rw [hg]; exact (below_size (by repeat (first | (with_reducible first | exact HB.out | apply below_alloc | apply pw_below_drewN | apply below_drew1 | refine below_set ?_ (IsS42.ge HI183.out) | refine below_set ?_ GE184.out) | exact HB.out))) : w.heap.size ≤ gb186)); have n5_ := Aside0.mk ((by rw [hg]; exact (below_size (by repeat (first | (with_reducible first | exact HB.out | apply below_alloc | apply pw_below_drewN | apply below_drew1 | refine below_set ?_ (IsS42.ge HI183.out) | refine below_set ?_ GE184.out) | exact HB.out))) : w.heap.size ≤ gb186)); have n6_ := Aside0.mk ((by rw [hg]; exact Nat.ne_of_lt (blk_lt (g := gb184) (o := .cells #[.int .i64 x185000_3, .int .i64 x185001_3, .int .i64 x185002_3, .int .i64 x185003_3, .int .i64 x185004_3, .bool x185005_3] 32 (0, 0)) (by (with_reducible repeat (first | refine blk_drewN ?_ _ | refine blk_drew ?_ | refine blk_alloc ?_ _)); exact BK184.out)) : gb184 ≠ gb186)); have n7_ := Aside0.mk ((by rw [hg]; exact Nat.ne_of_gt (blk_lt (g := gb184) (o := .cells #[.int .i64 x185000_3, .int .i64 x185001_3, .int .i64 x185002_3, .int .i64 x185003_3, .int .i64 x185004_3, .bool x185005_3] 32 (0, 0)) (by (with_reducible repeat (first | refine blk_drewN ?_ _ | refine blk_drew ?_ | refine blk_alloc ?_ _)); exact BK184.out)) : gb186 ≠ gb184)); have n8_ := Aside0.mk ((by rw [hg]; exact Nat.ne_of_lt (IsS42.lt (show IsS42 w _ g183 x184000_3 x184001_3 x184002_3 x184003_3 x184004_3 x184005_3 from by repeat (first | (with_reducible first | exact HI183.out | apply IsS42.alloc | apply IsS42.drewN | apply IsS42.drew | apply IsS42.set_0 | apply IsS42.set_1 | apply IsS42.set_2 | apply IsS42.set_3 | apply IsS42.set_4 | apply IsS42.set_5 | refine IsS42.far ?_ NB183_184.out _) | exact HI183.out))) : g183 ≠ gb186)); have n9_ := Aside0.mk ((by rw [hg]; exact Nat.ne_of_gt (IsS42.lt (show IsS42 w _ g183 x184000_3 x184001_3 x184002_3 x184003_3 x184004_3 x184005_3 from by repeat (first | (with_reducible first | exact HI183.out | apply IsS42.alloc | apply IsS42.drewN | apply IsS42.drew | apply IsS42.set_0 | apply IsS42.set_1 | apply IsS42.set_2 | apply IsS42.set_3 | apply IsS42.set_4 | apply IsS42.set_5 | refine IsS42.far ?_ NB183_184.out _) | exact HI183.out))) : gb186 ≠ g183)); clear BK184; clear HI183; clear HB; have BK184 := n0_; have HI183 := n1_; have HB := n2_; have BK186 := n3_; have GW186 := n4_; have GE186 := n5_; have NB184_186 := n6_; have NB186_184 := n7_; have NB183_186 := n8_; have NB186_183 := n9_; clear n0_ n1_ n2_ n3_ n4_ n5_ n6_ n7_ n8_ n9_; clear hb hbox hg; have hnb22 := NB186_184.out; have hnc22 := NB184_186.out; have hnb23 := NB186_183.out; have hnc23 := NB183_186.out; have hcz24_0 : w21.cell? ⟨gb186, 0, none⟩ = some (.int .i64 0) := (blk_cell BK186.out 0).trans rfl; have hcz24_1 : w21.cell? ⟨gb186, 1, none⟩ = some (.string (⟨#[]⟩ : ByteArray)) := (blk_cell BK186.out 1).trans rfl; have hfz24_0 := blk_frozen BK186.out 0; have hfz24_1 := blk_frozen BK186.out 1))
                          go_ret
                          exact ⟨by first | rfl | (simp [errW_none, errW_some] <;> rfl) | (simp [*, errW_none, errW_some] <;> rfl), by repeat (first | (with_reducible first | exact HB.out | apply below_alloc | apply pw_below_drewN | apply below_drew1 | refine below_set ?_ (IsS42.ge HI183.out) | refine below_set ?_ GE184.out | refine below_set ?_ GE186.out) | exact HB.out)⟩
                        · rw [if_neg c20] at H
                          have c20b0 : decide (40 < (((rd_T34 l2 x74_3).f1).size : Int)) = false := decide_eq_false c20
                          have c20b1 : decide (40 < ((rd_T34 l2 x74_3).f1).size) = false := decide_eq_false (by omega)
                          clear c20
                          have HC25 := Aside0.mk H
                          clear H
                          have p185 : 0 ≤ (x74_3 : Int) := of_decide_eq_true (by first | (with_reducible assumption) | assumption)
                          have q185 : x74_3 < (l2.length : Int) := of_decide_eq_true (by first | (with_reducible assumption) | assumption)
                          obtain ⟨ad185, e185, hx185_0, hx185_1⟩ := at_T34 HR2.out x74_3 p185 q185
                          cases e185
                          replace hx185_0 := (HB.out.cell (World.block_lt_of_cell? w _ hx185_0)).trans hx185_0
                          replace hx185_1 := (HB.out.cell (World.block_lt_of_cell? w _ hx185_1)).trans hx185_1
                          replace p185 := eq_true p185
                          replace q185 := eq_true q185
                          go_upto_block 2 with (first | ((with_reducible refine gate_dst (N := 14) rfl ?_); refine box_event ?hg (N := 14) ?hd (cs := #[.int .i64 0, .string (⟨#[]⟩ : ByteArray)]) (t := 34) ?hr ?_; (case hd => rfl); (case hg => rfl); (case hr => first | (go_simp; done) | (go_simp; rfl)); intro gb186 hg w26 hbox hb; have n0_ := Aside0.mk (blk_below (g := gb184) (o := .cells #[.int .i64 x185000_3, .int .i64 x185001_3, .int .i64 x185002_3, .int .i64 x185003_3, .int .i64 x185004_3, .bool x185005_3] 32 (0, 0)) (by (with_reducible repeat (first | refine blk_drewN ?_ _ | refine blk_drew ?_ | refine blk_alloc ?_ _)); exact BK184.out) hb); have n1_ := Aside0.mk (IsS42.below (by repeat (first | (with_reducible first | exact HI183.out | apply IsS42.alloc | apply IsS42.drewN | apply IsS42.drew | apply IsS42.set_0 | apply IsS42.set_1 | apply IsS42.set_2 | apply IsS42.set_3 | apply IsS42.set_4 | apply IsS42.set_5 | refine IsS42.far ?_ NB183_184.out _) | exact HI183.out)) hb); have n2_ := Aside0.mk (below_step (by repeat (first | (with_reducible first | exact HB.out | apply below_alloc | apply pw_below_drewN | apply below_drew1 | refine below_set ?_ (IsS42.ge HI183.out) | refine below_set ?_ GE184.out) | exact HB.out)) hb); have n3_ := Aside0.mk (hbox); have n4_ := Aside0.mk ((by rw [hg]; exact (below_size (by repeat (first | (with_reducible first | exact HB.out | apply below_alloc | apply pw_below_drewN | apply below_drew1 | refine below_set ?_ (IsS42.ge HI183.out) | refine below_set ?_ GE184.out) | exact HB.out))) : w.heap.size ≤ gb186)); have n5_ := Aside0.mk ((by rw [hg]; exact (below_size (by repeat (first | (with_reducible first | exact HB.out | apply below_alloc | apply pw_below_drewN | apply below_drew1 | refine below_set ?_ (IsS42.ge HI183.out) | refine below_set ?_ GE184.out) | exact HB.out))) : w.heap.size ≤ gb186)); have n6_ := Aside0.mk ((by rw [hg]; exact Nat.ne_of_lt (blk_lt (g := gb184) (o := .cells #[.int .i64 x185000_3, .int .i64 x185001_3, .int .i64 x185002_3, .int .i64 x185003_3, .int .i64 x185004_3, .bool x185005_3] 32 (0, 0)) (by (with_reducible repeat (first | refine blk_drewN ?_ _ | refine blk_drew ?_ | refine blk_alloc ?_ _)); exact BK184.out)) : gb184 ≠ gb186)); have n7_ := Aside0.mk ((by rw [hg]; exact Nat.ne_of_gt (blk_lt (g := gb184) (o := .cells #[.int .i64 x185000_3, .int .i64 x185001_3, .int .i64 x185002_3, .int .i64 x185003_3, .int .i64 x185004_3, .bool x185005_3] 32 (0, 0)) (by (with_reducible repeat (first | refine blk_drewN ?_ _ | refine blk_drew ?_ | refine blk_alloc ?_ _)); exact BK184.out)) : gb186 ≠ gb184)); have n8_ := Aside0.mk ((by rw [hg]; exact Nat.ne_of_lt (IsS42.lt (show IsS42 w _ g183 x184000_3 x184001_3 x184002_3 x184003_3 x184004_3 x184005_3 from by repeat (first | (with_reducible first | exact HI183.out | apply IsS42.alloc | apply IsS42.drewN | apply IsS42.drew | apply IsS42.set_0 | apply IsS42.set_1 | apply IsS42.set_2 | apply IsS42.set_3 | apply IsS42.set_4 | apply IsS42.set_5 | refine IsS42.far ?_ NB183_184.out _) | exact HI183.out))) : g183 ≠ gb186)); have n9_ := Aside0.mk ((by rw [hg]; exact Nat.ne_of_gt (IsS42.lt (show IsS42 w _ g183 x184000_3 x184001_3 x184002_3 x184003_3 x184004_3 x184005_3 from by repeat (first | (with_reducible first | exact HI183.out | apply IsS42.alloc | apply IsS42.drewN | apply IsS42.drew | apply IsS42.set_0 | apply IsS42.set_1 | apply IsS42.set_2 | apply IsS42.set_3 | apply IsS42.set_4 | apply IsS42.set_5 | refine IsS42.far ?_ NB183_184.out _) | exact HI183.out))) : gb186 ≠ g183)); clear BK184; clear HI183; clear HB; have BK184 := n0_; have HI183 := n1_; have HB := n2_; have BK186 := n3_; have GW186 := n4_; have GE186 := n5_; have NB184_186 := n6_; have NB186_184 := n7_; have NB183_186 := n8_; have NB186_183 := n9_; clear n0_ n1_ n2_ n3_ n4_ n5_ n6_ n7_ n8_ n9_; clear hb hbox hg; have hnb27 := NB186_184.out; have hnc27 := NB184_186.out; have hnb28 := NB186_183.out; have hnc28 := NB183_186.out; have hcz29_0 : w26.cell? ⟨gb186, 0, none⟩ = some (.int .i64 0) := (blk_cell BK186.out 0).trans rfl; have hcz29_1 : w26.cell? ⟨gb186, 1, none⟩ = some (.string (⟨#[]⟩ : ByteArray)) := (blk_cell BK186.out 1).trans rfl; have hfz29_0 := blk_frozen BK186.out 0; have hfz29_1 := blk_frozen BK186.out 1))
                          (try simp only [Act.put, List.setIfInBounds_toArray, List.set_cons_zero, List.set_cons_succ])
                          go_cut [12] (fun v12 wc => ∃ (kq : Nat) (x12_24 : ByteArray) (x184000_24 : Int) (x184001_24 : Int) (x184002_24 : Int) (x184003_24 : Int) (x184004_24 : Bool) (x184005_24 : Bool) (x185000_24 : Int) (x185001_24 : Int) (x185002_24 : Int) (x185003_24 : Int) (x185004_24 : Int) (x185005_24 : Bool), v12 = .string x12_24 ∧ Aside0 (bywashlaw17_PingPlays.j4 kq x12_24 l2 (l2.length : Int) x74_3 x184000_24 x184001_24 x184002_24 x184003_24 x184004_24 x184005_24 x185000_24 x185001_24 x185002_24 x185003_24 x185004_24 x185005_24 = some r) ∧ Aside0 (kq ≤ k3) ∧ Aside0 (wc.heap[gb184]? = some (.cells #[.int .i64 x185000_24, .int .i64 x185001_24, .int .i64 x185002_24, .int .i64 x185003_24, .int .i64 x185004_24, .bool x185005_24] 32 (0, 0))) ∧ Aside0 (wc.heap[gb186]? = some (.cells #[.int .i64 ((rd_T34 l2 x74_3).f0), .string ((rd_T34 l2 x74_3).f1)] 34 (0, 0))) ∧ Aside0 (IsS42 w wc g183 x184000_24 x184001_24 x184002_24 x184003_24 x184004_24 x184005_24) ∧ Aside0 (Below w.heap.size w wc))
                          case first =>
                            have H := HC25.out
                            clear HC25
                            by_cases c30 : ((rd_T34 l2 x74_3).f0) = 1
                            · rw [if_pos c30] at H
                              have c30b0 : (((rd_T34 l2 x74_3).f0) == 1) = true := beq_iff_eq.mpr c30
                              have c30b1 : (((rd_T34 l2 x74_3).f0) != 1) = false := bne_eq_false_iff_eq.mpr c30
                              clear c30
                              (first | rw [c30b0] | (simp only [i64_w, i32_w]; rw [c30b0]) | skip)
                              replace H := Option.bind_eq_some_iff.mp H
                              obtain ⟨⟨t187, t188, t189, t190, t191, t192, t193, t194⟩, A310, H⟩ := H
                              replace H : ((bywashref1_Health_Tick.f k3 x185000_3 x185001_3 x185002_3 x185003_3 x185004_3 x185005_3).bind fun bt195 => (if t187.toList = bt195.1.toList then (if t188 = true then (if bt195.2.1 = true then (bywashlaw17_PingPlays.j3 k3 x12_3 t187 l2 (l2.length : Int) x74_3 false t189 t190 t191 t192 t193 t194 bt195.2.2.1 bt195.2.2.2.1 bt195.2.2.2.2.1 bt195.2.2.2.2.2.1 bt195.2.2.2.2.2.2.1 bt195.2.2.2.2.2.2.2) else (bywashlaw17_PingPlays.j3 k3 x12_3 t187 l2 (l2.length : Int) x74_3 true t189 t190 t191 t192 t193 t194 bt195.2.2.1 bt195.2.2.2.1 bt195.2.2.2.2.1 bt195.2.2.2.2.2.1 bt195.2.2.2.2.2.2.1 bt195.2.2.2.2.2.2.2)) else (if bt195.2.1 = true then (bywashlaw17_PingPlays.j3 k3 x12_3 t187 l2 (l2.length : Int) x74_3 true t189 t190 t191 t192 t193 t194 bt195.2.2.1 bt195.2.2.2.1 bt195.2.2.2.2.1 bt195.2.2.2.2.2.1 bt195.2.2.2.2.2.2.1 bt195.2.2.2.2.2.2.2) else (bywashlaw17_PingPlays.j3 k3 x12_3 t187 l2 (l2.length : Int) x74_3 false t189 t190 t191 t192 t193 t194 bt195.2.2.1 bt195.2.2.2.1 bt195.2.2.2.2.1 bt195.2.2.2.2.2.1 bt195.2.2.2.2.2.2.1 bt195.2.2.2.2.2.2.2))) else (bywashlaw17_PingPlays.j3 k3 x12_3 t187 l2 (l2.length : Int) x74_3 true t189 t190 t191 t192 t193 t194 bt195.2.2.1 bt195.2.2.2.1 bt195.2.2.2.2.1 bt195.2.2.2.2.2.1 bt195.2.2.2.2.2.2.1 bt195.2.2.2.2.2.2.2))) = some r := H
                              have A31 := Aside0.mk A310
                              clear A310
                              replace H := Option.bind_eq_some_iff.mp H
                              obtain ⟨⟨t195, t196, t197, t198, t199, t200, t201, t202⟩, A320, H⟩ := H
                              replace H : (if t187.toList = t195.toList then (if t188 = true then (if t196 = true then (bywashlaw17_PingPlays.j3 k3 x12_3 t187 l2 (l2.length : Int) x74_3 false t189 t190 t191 t192 t193 t194 t197 t198 t199 t200 t201 t202) else (bywashlaw17_PingPlays.j3 k3 x12_3 t187 l2 (l2.length : Int) x74_3 true t189 t190 t191 t192 t193 t194 t197 t198 t199 t200 t201 t202)) else (if t196 = true then (bywashlaw17_PingPlays.j3 k3 x12_3 t187 l2 (l2.length : Int) x74_3 true t189 t190 t191 t192 t193 t194 t197 t198 t199 t200 t201 t202) else (bywashlaw17_PingPlays.j3 k3 x12_3 t187 l2 (l2.length : Int) x74_3 false t189 t190 t191 t192 t193 t194 t197 t198 t199 t200 t201 t202))) else (bywashlaw17_PingPlays.j3 k3 x12_3 t187 l2 (l2.length : Int) x74_3 true t189 t190 t191 t192 t193 t194 t197 t198 t199 t200 t201 t202)) = some r := H
                              have A32 := Aside0.mk A320
                              clear A320
                              have HC33 := Aside0.mk H
                              clear H
                              go_upto_region 21 with (first | ((with_reducible refine gate_callee (f := 10) rfl ?_); refine goesL_ (some 88) rfl rfl Try.func10 (by kernel_rfl) rfl #[.pointer (some ⟨g183, 0, none⟩)] rfl (by (try simp only [List.map_toArray, List.map_cons, List.map_nil]); first | done | rfl | (simp only [List.length_drop, List.length_take]; rfl)) ?_; (with_reducible refine (ping_Health_Tick.calls k3 g183 x184000_3 x184001_3 x184002_3 x184003_3 x184004_3 x184005_3 t187 t188 t189 t190 t191 t192 t193 t194 w _ ?side1 ?side2 A31.out).mono ?_); (case side1 => repeat (first | (with_reducible first | exact HI183.out | apply IsS42.alloc | apply IsS42.drewN | apply IsS42.drew | apply IsS42.set_0 | apply IsS42.set_1 | apply IsS42.set_2 | apply IsS42.set_3 | apply IsS42.set_4 | apply IsS42.set_5 | refine IsS42.far ?_ NB183_184.out _ | refine IsS42.far ?_ NB183_186.out _) | exact HI183.out)); (case side2 => repeat (first | (with_reducible first | exact HB.out | apply below_alloc | apply pw_below_drewN | apply below_drew1 | refine below_set ?_ (IsS42.ge HI183.out) | refine below_set ?_ GE184.out | refine below_set ?_ GE186.out) | exact HB.out)); rintro e w34 ⟨rfl, hi, hb, hk⟩; refine ⟨_, rfl, ?_⟩; have n0_ := Aside0.mk (KeepBut.blk hk (g' := gb184) (o := .cells #[.int .i64 x185000_3, .int .i64 x185001_3, .int .i64 x185002_3, .int .i64 x185003_3, .int .i64 x185004_3, .bool x185005_3] 32 (0, 0)) (by (with_reducible repeat (first | refine blk_drewN ?_ _ | refine blk_drew ?_ | refine blk_alloc ?_ _)); refine blk_far ?_ NB184_186.out _; (with_reducible repeat (first | refine blk_drewN ?_ _ | refine blk_drew ?_ | refine blk_alloc ?_ _)); refine blk_far ?_ NB184_186.out _; (with_reducible repeat (first | refine blk_drewN ?_ _ | refine blk_drew ?_ | refine blk_alloc ?_ _)); exact BK184.out) NB184_183.out (by simp)); have n1_ := Aside0.mk (KeepBut.blk hk (g' := gb186) (o := .cells #[.int .i64 ((rd_T34 l2 x74_3).f0), .string ((rd_T34 l2 x74_3).f1)] 34 (0, 0)) (by (with_reducible repeat (first | refine blk_drewN ?_ _ | refine blk_drew ?_ | refine blk_alloc ?_ _)); refine blk_put (cs := #[.int .i64 ((rd_T34 l2 x74_3).f0), .string (⟨#[]⟩ : ByteArray)]) ?_ 1 _ rfl; (with_reducible repeat (first | refine blk_drewN ?_ _ | refine blk_drew ?_ | refine blk_alloc ?_ _)); refine blk_put (cs := #[.int .i64 0, .string (⟨#[]⟩ : ByteArray)]) ?_ 0 _ rfl; (with_reducible repeat (first | refine blk_drewN ?_ _ | refine blk_drew ?_ | refine blk_alloc ?_ _)); exact BK186.out) NB186_183.out (by simp)); have n2_ := Aside0.mk (hb); have n3_ := Aside0.mk (hi); clear BK184; clear BK186; clear HB; clear HI183; have BK184 := n0_; have BK186 := n1_; have HB := n2_; have HI183 := n3_; clear n0_ n1_ n2_ n3_; (try clear hb); (try clear hb2); (try clear hk); (try clear hi)) | ((with_reducible refine gate_callee (f := 14) rfl ?_); refine goesL_ (some 93) rfl rfl Try.func14 (by kernel_rfl) rfl #[.pointer (some ⟨gb184, 0, none⟩)] rfl (by (try simp only [List.map_toArray, List.map_cons, List.map_nil]); first | done | rfl | (simp only [List.length_drop, List.length_take]; rfl)) ?_; (with_reducible refine (bywashref1_Health_Tick.calls k3 gb184 x185000_3 x185001_3 x185002_3 x185003_3 x185004_3 x185005_3 t195 t196 t197 t198 t199 t200 t201 t202 w _ ?side1 ?side2 A32.out).mono ?_); (case side1 => exact ⟨by (with_reducible repeat (first | refine blk_drewN ?_ _ | refine blk_drew ?_ | refine blk_alloc ?_ _)); exact BK184.out, GE184.out⟩); (case side2 => repeat (first | (with_reducible first | exact HB.out | apply below_alloc | apply pw_below_drewN | apply below_drew1 | refine below_set ?_ (IsS42.ge HI183.out) | refine below_set ?_ GE184.out | refine below_set ?_ GE186.out) | exact HB.out)); rintro e w35 ⟨rfl, hi, hb, hk⟩; refine ⟨_, rfl, ?_⟩; have n0_ := Aside0.mk (hi.1); have n1_ := Aside0.mk (show IsS42 w _ g183 t189 t190 t191 t192 t193 t194 from ⟨KeepBut.blk hk (show IsS42 w _ g183 t189 t190 t191 t192 t193 t194 from by repeat (first | (with_reducible first | exact HI183.out | apply IsS42.alloc | apply IsS42.drewN | apply IsS42.drew | apply IsS42.set_0 | apply IsS42.set_1 | apply IsS42.set_2 | apply IsS42.set_3 | apply IsS42.set_4 | apply IsS42.set_5 | refine IsS42.far ?_ NB183_184.out _ | refine IsS42.far ?_ NB183_186.out _) | exact HI183.out)).1 NB183_184.out (by simp), (HI183.out).2⟩); have n2_ := Aside0.mk (KeepBut.blk hk (g' := gb186) (o := .cells #[.int .i64 ((rd_T34 l2 x74_3).f0), .string ((rd_T34 l2 x74_3).f1)] 34 (0, 0)) (by (with_reducible repeat (first | refine blk_drewN ?_ _ | refine blk_drew ?_ | refine blk_alloc ?_ _)); exact BK186.out) NB186_184.out (by simp)); have n3_ := Aside0.mk (hb); clear BK184; clear HI183; clear BK186; clear HB; have BK184 := n0_; have HI183 := n1_; have BK186 := n2_; have HB := n3_; clear n0_ n1_ n2_ n3_; (try clear hb); (try clear hb2); (try clear hk); (try clear hi)))
                              (try simp only [Act.put, List.setIfInBounds_toArray, List.set_cons_zero, List.set_cons_succ])
                              go_cut [103] (fun v103 wc => ∃ (kq : Nat) (x103_32 : Bool), v103 = .bool x103_32 ∧ Aside0 (bywashlaw17_PingPlays.j3 kq x12_3 t187 l2 (l2.length : Int) x74_3 x103_32 t189 t190 t191 t192 t193 t194 t197 t198 t199 t200 t201 t202 = some r) ∧ Aside0 (kq ≤ k3) ∧ Aside0 (wc.heap[gb184]? = some (.cells #[.int .i64 t197, .int .i64 t198, .int .i64 t199, .int .i64 t200, .int .i64 t201, .bool t202] 32 (0, 0))) ∧ Aside0 (wc.heap[gb186]? = some (.cells #[.int .i64 ((rd_T34 l2 x74_3).f0), .string ((rd_T34 l2 x74_3).f1)] 34 (0, 0))) ∧ Aside0 (IsS42 w wc g183 t189 t190 t191 t192 t193 t194) ∧ Aside0 (Below w.heap.size w wc))
                              case first =>
                                have H := HC33.out
                                clear HC33
                                by_cases c36 : t187.toList = t195.toList
                                · rw [if_pos c36] at H
                                  have c36b0 : (t187.toList == t195.toList) = true := beq_iff_eq.mpr c36
                                  have c36b1 : (t187.toList != t195.toList) = false := bne_eq_false_iff_eq.mpr c36
                                  clear c36
                                  (first | rw [c36b0] | (simp only [i64_w, i32_w]; rw [c36b0]) | skip)
                                  by_cases c37 : t188 = true
                                  · subst c37
                                    have H1 : (if t196 = true then (bywashlaw17_PingPlays.j3 k3 x12_3 t187 l2 (l2.length : Int) x74_3 false t189 t190 t191 t192 t193 t194 t197 t198 t199 t200 t201 t202) else (bywashlaw17_PingPlays.j3 k3 x12_3 t187 l2 (l2.length : Int) x74_3 true t189 t190 t191 t192 t193 t194 t197 t198 t199 t200 t201 t202)) = some r := by rw [if_pos rfl] at H; exact H
                                    clear H
                                    have H := H1
                                    clear H1
                                    by_cases c38 : t196 = true
                                    · subst c38
                                      have H1 : (bywashlaw17_PingPlays.j3 k3 x12_3 t187 l2 (l2.length : Int) x74_3 false t189 t190 t191 t192 t193 t194 t197 t198 t199 t200 t201 t202) = some r := by rw [if_pos rfl] at H; exact H
                                      clear H
                                      have H := H1
                                      clear H1
                                      have H' := Aside0.mk H
                                      clear H
                                      go_wp2
                                      go_meet
                                      case rel => exact ⟨_, (false), (by first | rfl | (simp; done) | (simp [*]; done)), H', ⟨by have := HJ3.out; have := HJ11.out; have := HK3.out; first | omega | exact Nat.le_refl _⟩, ⟨by (with_reducible repeat (first | refine blk_drewN ?_ _ | refine blk_drew ?_ | refine blk_alloc ?_ _)); exact BK184.out⟩, ⟨by (with_reducible repeat (first | refine blk_drewN ?_ _ | refine blk_drew ?_ | refine blk_alloc ?_ _)); exact BK186.out⟩, ⟨by repeat (first | (with_reducible first | exact HI183.out | apply IsS42.alloc | apply IsS42.drewN | apply IsS42.drew | apply IsS42.set_0 | apply IsS42.set_1 | apply IsS42.set_2 | apply IsS42.set_3 | apply IsS42.set_4 | apply IsS42.set_5 | refine IsS42.far ?_ NB183_184.out _ | refine IsS42.far ?_ NB183_186.out _) | exact HI183.out)⟩, ⟨by repeat (first | (with_reducible first | exact HB.out | apply below_alloc | apply pw_below_drewN | apply below_drew1 | refine below_set ?_ (IsS42.ge HI183.out) | refine below_set ?_ GE184.out | refine below_set ?_ GE186.out) | exact HB.out)⟩⟩
                                    · replace c38 := Bool.eq_false_iff.mpr c38
                                      subst c38
                                      have H1 : (bywashlaw17_PingPlays.j3 k3 x12_3 t187 l2 (l2.length : Int) x74_3 true t189 t190 t191 t192 t193 t194 t197 t198 t199 t200 t201 t202) = some r := by rw [if_neg (show ¬ (false = true) by decide)] at H; exact H
                                      clear H
                                      have H := H1
                                      clear H1
                                      have H' := Aside0.mk H
                                      clear H
                                      go_wp2
                                      go_meet
                                      case rel => exact ⟨_, (true), (by first | rfl | (simp; done) | (simp [*]; done)), H', ⟨by have := HJ3.out; have := HJ11.out; have := HK3.out; first | omega | exact Nat.le_refl _⟩, ⟨by (with_reducible repeat (first | refine blk_drewN ?_ _ | refine blk_drew ?_ | refine blk_alloc ?_ _)); exact BK184.out⟩, ⟨by (with_reducible repeat (first | refine blk_drewN ?_ _ | refine blk_drew ?_ | refine blk_alloc ?_ _)); exact BK186.out⟩, ⟨by repeat (first | (with_reducible first | exact HI183.out | apply IsS42.alloc | apply IsS42.drewN | apply IsS42.drew | apply IsS42.set_0 | apply IsS42.set_1 | apply IsS42.set_2 | apply IsS42.set_3 | apply IsS42.set_4 | apply IsS42.set_5 | refine IsS42.far ?_ NB183_184.out _ | refine IsS42.far ?_ NB183_186.out _) | exact HI183.out)⟩, ⟨by repeat (first | (with_reducible first | exact HB.out | apply below_alloc | apply pw_below_drewN | apply below_drew1 | refine below_set ?_ (IsS42.ge HI183.out) | refine below_set ?_ GE184.out | refine below_set ?_ GE186.out) | exact HB.out)⟩⟩
                                  · replace c37 := Bool.eq_false_iff.mpr c37
                                    subst c37
                                    have H1 : (if t196 = true then (bywashlaw17_PingPlays.j3 k3 x12_3 t187 l2 (l2.length : Int) x74_3 true t189 t190 t191 t192 t193 t194 t197 t198 t199 t200 t201 t202) else (bywashlaw17_PingPlays.j3 k3 x12_3 t187 l2 (l2.length : Int) x74_3 false t189 t190 t191 t192 t193 t194 t197 t198 t199 t200 t201 t202)) = some r := by rw [if_neg (show ¬ (false = true) by decide)] at H; exact H
                                    clear H
                                    have H := H1
                                    clear H1
                                    by_cases c39 : t196 = true
                                    · subst c39
                                      have H1 : (bywashlaw17_PingPlays.j3 k3 x12_3 t187 l2 (l2.length : Int) x74_3 true t189 t190 t191 t192 t193 t194 t197 t198 t199 t200 t201 t202) = some r := by rw [if_pos rfl] at H; exact H
                                      clear H
                                      have H := H1
                                      clear H1
                                      have H' := Aside0.mk H
                                      clear H
                                      go_wp2
                                      go_meet
                                      case rel => exact ⟨_, (true), (by first | rfl | (simp; done) | (simp [*]; done)), H', ⟨by have := HJ3.out; have := HJ11.out; have := HK3.out; first | omega | exact Nat.le_refl _⟩, ⟨by (with_reducible repeat (first | refine blk_drewN ?_ _ | refine blk_drew ?_ | refine blk_alloc ?_ _)); exact BK184.out⟩, ⟨by (with_reducible repeat (first | refine blk_drewN ?_ _ | refine blk_drew ?_ | refine blk_alloc ?_ _)); exact BK186.out⟩, ⟨by repeat (first | (with_reducible first | exact HI183.out | apply IsS42.alloc | apply IsS42.drewN | apply IsS42.drew | apply IsS42.set_0 | apply IsS42.set_1 | apply IsS42.set_2 | apply IsS42.set_3 | apply IsS42.set_4 | apply IsS42.set_5 | refine IsS42.far ?_ NB183_184.out _ | refine IsS42.far ?_ NB183_186.out _) | exact HI183.out)⟩, ⟨by repeat (first | (with_reducible first | exact HB.out | apply below_alloc | apply pw_below_drewN | apply below_drew1 | refine below_set ?_ (IsS42.ge HI183.out) | refine below_set ?_ GE184.out | refine below_set ?_ GE186.out) | exact HB.out)⟩⟩
                                    · replace c39 := Bool.eq_false_iff.mpr c39
                                      subst c39
                                      have H1 : (bywashlaw17_PingPlays.j3 k3 x12_3 t187 l2 (l2.length : Int) x74_3 false t189 t190 t191 t192 t193 t194 t197 t198 t199 t200 t201 t202) = some r := by rw [if_neg (show ¬ (false = true) by decide)] at H; exact H
                                      clear H
                                      have H := H1
                                      clear H1
                                      have H' := Aside0.mk H
                                      clear H
                                      go_wp2
                                      go_meet
                                      case rel => exact ⟨_, (false), (by first | rfl | (simp; done) | (simp [*]; done)), H', ⟨by have := HJ3.out; have := HJ11.out; have := HK3.out; first | omega | exact Nat.le_refl _⟩, ⟨by (with_reducible repeat (first | refine blk_drewN ?_ _ | refine blk_drew ?_ | refine blk_alloc ?_ _)); exact BK184.out⟩, ⟨by (with_reducible repeat (first | refine blk_drewN ?_ _ | refine blk_drew ?_ | refine blk_alloc ?_ _)); exact BK186.out⟩, ⟨by repeat (first | (with_reducible first | exact HI183.out | apply IsS42.alloc | apply IsS42.drewN | apply IsS42.drew | apply IsS42.set_0 | apply IsS42.set_1 | apply IsS42.set_2 | apply IsS42.set_3 | apply IsS42.set_4 | apply IsS42.set_5 | refine IsS42.far ?_ NB183_184.out _ | refine IsS42.far ?_ NB183_186.out _) | exact HI183.out)⟩, ⟨by repeat (first | (with_reducible first | exact HB.out | apply below_alloc | apply pw_below_drewN | apply below_drew1 | refine below_set ?_ (IsS42.ge HI183.out) | refine below_set ?_ GE184.out | refine below_set ?_ GE186.out) | exact HB.out)⟩⟩
                                · rw [if_neg c36] at H
                                  have c36b0 : (t187.toList == t195.toList) = false := beq_eq_false_iff_ne.mpr c36
                                  have c36b1 : (t187.toList != t195.toList) = true := bne_iff_ne.mpr c36
                                  (first | rw [c36b0] | (simp only [i64_w, i32_w]; rw [c36b0]) | skip)
                                  have H' := Aside0.mk H
                                  clear H
                                  go_wp2
                                  go_meet
                                  case rel => exact ⟨_, (true), (by first | rfl | (simp; done) | (simp [*]; done)), H', ⟨by have := HJ3.out; have := HJ11.out; have := HK3.out; first | omega | exact Nat.le_refl _⟩, ⟨by (with_reducible repeat (first | refine blk_drewN ?_ _ | refine blk_drew ?_ | refine blk_alloc ?_ _)); exact BK184.out⟩, ⟨by (with_reducible repeat (first | refine blk_drewN ?_ _ | refine blk_drew ?_ | refine blk_alloc ?_ _)); exact BK186.out⟩, ⟨by repeat (first | (with_reducible first | exact HI183.out | apply IsS42.alloc | apply IsS42.drewN | apply IsS42.drew | apply IsS42.set_0 | apply IsS42.set_1 | apply IsS42.set_2 | apply IsS42.set_3 | apply IsS42.set_4 | apply IsS42.set_5 | refine IsS42.far ?_ NB183_184.out _ | refine IsS42.far ?_ NB183_186.out _) | exact HI183.out)⟩, ⟨by repeat (first | (with_reducible first | exact HB.out | apply below_alloc | apply pw_below_drewN | apply below_drew1 | refine below_set ?_ (IsS42.ge HI183.out) | refine below_set ?_ GE184.out | refine below_set ?_ GE186.out) | exact HB.out)⟩⟩
                              case rest =>
                                clear HC33
                                try clear c1
                                try clear p1
                                try clear q1
                                try clear hx1
                                try clear c2
                                try clear p2
                                try clear c3
                                try clear c5
                                try clear c5b0
                                try clear c5b1
                                try clear c8
                                try clear c9
                                try clear c10
                                try clear c14
                                try clear c14b0
                                try clear c15
                                try clear c17
                                try clear c17b0
                                try clear c18
                                try clear c18b0
                                try clear p18
                                try clear q18
                                try clear hx18
                                try clear c19
                                try clear c19b0
                                try clear c20
                                try clear c20b0
                                try clear c20b1
                                try clear c22
                                try clear c23
                                try clear c27
                                try clear c28
                                try clear c30
                                try clear c30b0
                                try clear c30b1
                                try clear c36
                                try clear c36b0
                                try clear c36b1
                                try clear c37
                                try clear c38
                                try clear c39
                                try clear hcz24_0
                                try clear hcz24_1
                                try clear hcz29_0
                                try clear hcz29_1
                                try clear hfz24_0
                                try clear hfz24_1
                                try clear hfz29_0
                                try clear hfz29_1
                                try clear hx185_0
                                try clear hx185_1
                                try clear p185
                                try clear p2
                                try clear q185
                                obtain ⟨kq, x103_32, rfl, HA, HJ32, BK184, BK186, HI183, HB⟩ := hcut
                                cases kq with
                                | zero => exact absurd HA.out (by simp [bywashlaw17_PingPlays.j3])
                                | succ kj32 =>
                                  have H := HA.out
                                  clear HA
                                  simp only [bywashlaw17_PingPlays.j3] at H
                                  by_cases c40 : x103_32 = true
                                  · subst c40
                                    have H1 : (some false) = some r := by rw [if_pos rfl] at H; exact H
                                    clear H
                                    have H := H1
                                    clear H1
                                    obtain rfl := Option.some.inj H
                                    go_wp2
                                    go_ret
                                    exact ⟨by first | rfl | (simp [errW_none, errW_some] <;> rfl) | (simp [*, errW_none, errW_some] <;> rfl), by repeat (first | (with_reducible first | exact HB.out | apply below_alloc | apply pw_below_drewN | apply below_drew1 | refine below_set ?_ (IsS42.ge HI183.out) | refine below_set ?_ GE184.out | refine below_set ?_ GE186.out) | exact HB.out)⟩
                                  · replace c40 := Bool.eq_false_iff.mpr c40
                                    subst c40
                                    have H1 : (if t187.toList = ([] : List UInt8) then (bywashlaw17_PingPlays.j4 kj32 x12_3 l2 (l2.length : Int) x74_3 t189 t190 t191 t192 t193 t194 t197 t198 t199 t200 t201 t202) else (bywashlaw17_PingPlays.j4 kj32 t187 l2 (l2.length : Int) x74_3 t189 t190 t191 t192 t193 t194 t197 t198 t199 t200 t201 t202)) = some r := by rw [if_neg (show ¬ (false = true) by decide)] at H; exact H
                                    clear H
                                    have H := H1
                                    clear H1
                                    by_cases c41 : t187.toList = ([] : List UInt8)
                                    · rw [if_pos c41] at H
                                      have c41b0 : (t187.toList == ([] : List UInt8)) = true := beq_iff_eq.mpr c41
                                      have c41b1 : (t187.toList != ([] : List UInt8)) = false := bne_eq_false_iff_eq.mpr c41
                                      clear c41
                                      have H' := Aside0.mk H
                                      clear H
                                      go_wp2
                                      go_meet
                                      case rel => exact ⟨_, (x12_3), (t189), (t190), (t191), (t192), (t193), (t194), (t197), (t198), (t199), (t200), (t201), (t202), (by first | rfl | (simp; done) | (simp [*]; done)), H', ⟨by have := HJ3.out; have := HJ11.out; have := HK3.out; have := HJ32.out; first | omega | exact Nat.le_refl _⟩, ⟨by (with_reducible repeat (first | refine blk_drewN ?_ _ | refine blk_drew ?_ | refine blk_alloc ?_ _)); exact BK184.out⟩, ⟨by (with_reducible repeat (first | refine blk_drewN ?_ _ | refine blk_drew ?_ | refine blk_alloc ?_ _)); exact BK186.out⟩, ⟨by repeat (first | (with_reducible first | exact HI183.out | apply IsS42.alloc | apply IsS42.drewN | apply IsS42.drew | apply IsS42.set_0 | apply IsS42.set_1 | apply IsS42.set_2 | apply IsS42.set_3 | apply IsS42.set_4 | apply IsS42.set_5 | refine IsS42.far ?_ NB183_184.out _ | refine IsS42.far ?_ NB183_186.out _) | exact HI183.out)⟩, ⟨by repeat (first | (with_reducible first | exact HB.out | apply below_alloc | apply pw_below_drewN | apply below_drew1 | refine below_set ?_ (IsS42.ge HI183.out) | refine below_set ?_ GE184.out | refine below_set ?_ GE186.out) | exact HB.out)⟩⟩
                                    · rw [if_neg c41] at H
                                      have c41b0 : (t187.toList == ([] : List UInt8)) = false := beq_eq_false_iff_ne.mpr c41
                                      have c41b1 : (t187.toList != ([] : List UInt8)) = true := bne_iff_ne.mpr c41
                                      have H' := Aside0.mk H
                                      clear H
                                      go_wp2
                                      go_meet
                                      case rel => exact ⟨_, (t187), (t189), (t190), (t191), (t192), (t193), (t194), (t197), (t198), (t199), (t200), (t201), (t202), (by first | rfl | (simp; done) | (simp [*]; done)), H', ⟨by have := HJ3.out; have := HJ11.out; have := HK3.out; have := HJ32.out; first | omega | exact Nat.le_refl _⟩, ⟨by (with_reducible repeat (first | refine blk_drewN ?_ _ | refine blk_drew ?_ | refine blk_alloc ?_ _)); exact BK184.out⟩, ⟨by (with_reducible repeat (first | refine blk_drewN ?_ _ | refine blk_drew ?_ | refine blk_alloc ?_ _)); exact BK186.out⟩, ⟨by repeat (first | (with_reducible first | exact HI183.out | apply IsS42.alloc | apply IsS42.drewN | apply IsS42.drew | apply IsS42.set_0 | apply IsS42.set_1 | apply IsS42.set_2 | apply IsS42.set_3 | apply IsS42.set_4 | apply IsS42.set_5 | refine IsS42.far ?_ NB183_184.out _ | refine IsS42.far ?_ NB183_186.out _) | exact HI183.out)⟩, ⟨by repeat (first | (with_reducible first | exact HB.out | apply below_alloc | apply pw_below_drewN | apply below_drew1 | refine below_set ?_ (IsS42.ge HI183.out) | refine below_set ?_ GE184.out | refine below_set ?_ GE186.out) | exact HB.out)⟩⟩
                            · rw [if_neg c30] at H
                              have c30b0 : (((rd_T34 l2 x74_3).f0) == 1) = false := beq_eq_false_iff_ne.mpr c30
                              have c30b1 : (((rd_T34 l2 x74_3).f0) != 1) = true := bne_iff_ne.mpr c30
                              (first | rw [c30b0] | (simp only [i64_w, i32_w]; rw [c30b0]) | skip)
                              by_cases c42 : ((rd_T34 l2 x74_3).f0) = 2
                              · rw [if_pos c42] at H
                                have c42b0 : (((rd_T34 l2 x74_3).f0) == 2) = true := beq_iff_eq.mpr c42
                                have c42b1 : (((rd_T34 l2 x74_3).f0) != 2) = false := bne_eq_false_iff_eq.mpr c42
                                clear c42
                                replace H := Option.bind_eq_some_iff.mp H
                                obtain ⟨⟨t203, t204, t205, t206, t207, t208, t209⟩, A430, H⟩ := H
                                replace H : ((bywashref1_Health_Got.f k3 x185000_3 x185001_3 x185002_3 x185003_3 x185004_3 x185005_3 x12_3).bind fun bt210 => (if t203 = true then (if bt210.1 = true then (bywashlaw17_PingPlays.j4 k3 x12_3 l2 (l2.length : Int) x74_3 t204 t205 t206 t207 t208 t209 bt210.2.1 bt210.2.2.1 bt210.2.2.2.1 bt210.2.2.2.2.1 bt210.2.2.2.2.2.1 bt210.2.2.2.2.2.2) else (some false)) else (if bt210.1 = true then (some false) else (bywashlaw17_PingPlays.j4 k3 x12_3 l2 (l2.length : Int) x74_3 t204 t205 t206 t207 t208 t209 bt210.2.1 bt210.2.2.1 bt210.2.2.2.1 bt210.2.2.2.2.1 bt210.2.2.2.2.2.1 bt210.2.2.2.2.2.2)))) = some r := H
                                have A43 := Aside0.mk A430
                                clear A430
                                replace H := Option.bind_eq_some_iff.mp H
                                obtain ⟨⟨t210, t211, t212, t213, t214, t215, t216⟩, A440, H⟩ := H
                                replace H : (if t203 = true then (if t210 = true then (bywashlaw17_PingPlays.j4 k3 x12_3 l2 (l2.length : Int) x74_3 t204 t205 t206 t207 t208 t209 t211 t212 t213 t214 t215 t216) else (some false)) else (if t210 = true then (some false) else (bywashlaw17_PingPlays.j4 k3 x12_3 l2 (l2.length : Int) x74_3 t204 t205 t206 t207 t208 t209 t211 t212 t213 t214 t215 t216))) = some r := H
                                have A44 := Aside0.mk A440
                                clear A440
                                by_cases c45 : t203 = true
                                · subst c45
                                  have H1 : (if t210 = true then (bywashlaw17_PingPlays.j4 k3 x12_3 l2 (l2.length : Int) x74_3 t204 t205 t206 t207 t208 t209 t211 t212 t213 t214 t215 t216) else (some false)) = some r := by rw [if_pos rfl] at H; exact H
                                  clear H
                                  have H := H1
                                  clear H1
                                  by_cases c46 : t210 = true
                                  · subst c46
                                    have H1 : (bywashlaw17_PingPlays.j4 k3 x12_3 l2 (l2.length : Int) x74_3 t204 t205 t206 t207 t208 t209 t211 t212 t213 t214 t215 t216) = some r := by rw [if_pos rfl] at H; exact H
                                    clear H
                                    have H := H1
                                    clear H1
                                    have H' := Aside0.mk H
                                    clear H
                                    go_wp2_with (first | ((with_reducible refine gate_callee (f := 11) rfl ?_); refine goesL_ (some 111) rfl rfl Try.func11 (by kernel_rfl) rfl #[.pointer (some ⟨g183, 0, none⟩), .string x12_3] rfl (by (try simp only [List.map_toArray, List.map_cons, List.map_nil]); first | done | rfl | (simp only [List.length_drop, List.length_take]; rfl)) ?_; (with_reducible refine (ping_Health_Got.calls k3 g183 x184000_3 x184001_3 x184002_3 x184003_3 x184004_3 x184005_3 x12_3 true t204 t205 t206 t207 t208 t209 w _ ?side1 ?side2 A43.out).mono ?_); (case side1 => repeat (first | (with_reducible first | exact HI183.out | apply IsS42.alloc | apply IsS42.drewN | apply IsS42.drew | apply IsS42.set_0 | apply IsS42.set_1 | apply IsS42.set_2 | apply IsS42.set_3 | apply IsS42.set_4 | apply IsS42.set_5 | refine IsS42.far ?_ NB183_184.out _ | refine IsS42.far ?_ NB183_186.out _) | exact HI183.out)); (case side2 => repeat (first | (with_reducible first | exact HB.out | apply below_alloc | apply pw_below_drewN | apply below_drew1 | refine below_set ?_ (IsS42.ge HI183.out) | refine below_set ?_ GE184.out | refine below_set ?_ GE186.out) | exact HB.out)); rintro e w47 ⟨rfl, hi, hb, hk⟩; refine ⟨_, rfl, ?_⟩; have n0_ := Aside0.mk (KeepBut.blk hk (g' := gb184) (o := .cells #[.int .i64 x185000_3, .int .i64 x185001_3, .int .i64 x185002_3, .int .i64 x185003_3, .int .i64 x185004_3, .bool x185005_3] 32 (0, 0)) (by (with_reducible repeat (first | refine blk_drewN ?_ _ | refine blk_drew ?_ | refine blk_alloc ?_ _)); refine blk_far ?_ NB184_186.out _; (with_reducible repeat (first | refine blk_drewN ?_ _ | refine blk_drew ?_ | refine blk_alloc ?_ _)); refine blk_far ?_ NB184_186.out _; (with_reducible repeat (first | refine blk_drewN ?_ _ | refine blk_drew ?_ | refine blk_alloc ?_ _)); exact BK184.out) NB184_183.out (by simp)); have n1_ := Aside0.mk (KeepBut.blk hk (g' := gb186) (o := .cells #[.int .i64 ((rd_T34 l2 x74_3).f0), .string ((rd_T34 l2 x74_3).f1)] 34 (0, 0)) (by (with_reducible repeat (first | refine blk_drewN ?_ _ | refine blk_drew ?_ | refine blk_alloc ?_ _)); refine blk_put (cs := #[.int .i64 ((rd_T34 l2 x74_3).f0), .string (⟨#[]⟩ : ByteArray)]) ?_ 1 _ rfl; (with_reducible repeat (first | refine blk_drewN ?_ _ | refine blk_drew ?_ | refine blk_alloc ?_ _)); refine blk_put (cs := #[.int .i64 0, .string (⟨#[]⟩ : ByteArray)]) ?_ 0 _ rfl; (with_reducible repeat (first | refine blk_drewN ?_ _ | refine blk_drew ?_ | refine blk_alloc ?_ _)); exact BK186.out) NB186_183.out (by simp)); have n2_ := Aside0.mk (hb); have n3_ := Aside0.mk (hi); clear BK184; clear BK186; clear HB; clear HI183; have BK184 := n0_; have BK186 := n1_; have HB := n2_; have HI183 := n3_; clear n0_ n1_ n2_ n3_; (try clear hb); (try clear hb2); (try clear hk); (try clear hi)) | ((with_reducible refine gate_callee (f := 15) rfl ?_); refine goesL_ (some 114) rfl rfl Try.func15 (by kernel_rfl) rfl #[.pointer (some ⟨gb184, 0, none⟩), .string x12_3] rfl (by (try simp only [List.map_toArray, List.map_cons, List.map_nil]); first | done | rfl | (simp only [List.length_drop, List.length_take]; rfl)) ?_; (with_reducible refine (bywashref1_Health_Got.calls k3 gb184 x185000_3 x185001_3 x185002_3 x185003_3 x185004_3 x185005_3 x12_3 true t211 t212 t213 t214 t215 t216 w _ ?side1 ?side2 A44.out).mono ?_); (case side1 => exact ⟨by (with_reducible repeat (first | refine blk_drewN ?_ _ | refine blk_drew ?_ | refine blk_alloc ?_ _)); exact BK184.out, GE184.out⟩); (case side2 => repeat (first | (with_reducible first | exact HB.out | apply below_alloc | apply pw_below_drewN | apply below_drew1 | refine below_set ?_ (IsS42.ge HI183.out) | refine below_set ?_ GE184.out | refine below_set ?_ GE186.out) | exact HB.out)); rintro e w48 ⟨rfl, hi, hb, hk⟩; refine ⟨_, rfl, ?_⟩; have n0_ := Aside0.mk (hi.1); have n1_ := Aside0.mk (show IsS42 w _ g183 t204 t205 t206 t207 t208 t209 from ⟨KeepBut.blk hk (show IsS42 w _ g183 t204 t205 t206 t207 t208 t209 from by repeat (first | (with_reducible first | exact HI183.out | apply IsS42.alloc | apply IsS42.drewN | apply IsS42.drew | apply IsS42.set_0 | apply IsS42.set_1 | apply IsS42.set_2 | apply IsS42.set_3 | apply IsS42.set_4 | apply IsS42.set_5 | refine IsS42.far ?_ NB183_184.out _ | refine IsS42.far ?_ NB183_186.out _) | exact HI183.out)).1 NB183_184.out (by simp), (HI183.out).2⟩); have n2_ := Aside0.mk (KeepBut.blk hk (g' := gb186) (o := .cells #[.int .i64 ((rd_T34 l2 x74_3).f0), .string ((rd_T34 l2 x74_3).f1)] 34 (0, 0)) (by (with_reducible repeat (first | refine blk_drewN ?_ _ | refine blk_drew ?_ | refine blk_alloc ?_ _)); exact BK186.out) NB186_184.out (by simp)); have n3_ := Aside0.mk (hb); clear BK184; clear HI183; clear BK186; clear HB; have BK184 := n0_; have HI183 := n1_; have BK186 := n2_; have HB := n3_; clear n0_ n1_ n2_ n3_; (try clear hb); (try clear hb2); (try clear hk); (try clear hi)))
                                    go_meet
                                    case rel => exact ⟨_, (x12_3), (t204), (t205), (t206), (t207), (t208), (t209), (t211), (t212), (t213), (t214), (t215), (t216), (by first | rfl | (simp; done) | (simp [*]; done)), H', ⟨by have := HJ3.out; have := HJ11.out; have := HK3.out; first | omega | exact Nat.le_refl _⟩, ⟨by (with_reducible repeat (first | refine blk_drewN ?_ _ | refine blk_drew ?_ | refine blk_alloc ?_ _)); exact BK184.out⟩, ⟨by (with_reducible repeat (first | refine blk_drewN ?_ _ | refine blk_drew ?_ | refine blk_alloc ?_ _)); exact BK186.out⟩, ⟨by repeat (first | (with_reducible first | exact HI183.out | apply IsS42.alloc | apply IsS42.drewN | apply IsS42.drew | apply IsS42.set_0 | apply IsS42.set_1 | apply IsS42.set_2 | apply IsS42.set_3 | apply IsS42.set_4 | apply IsS42.set_5 | refine IsS42.far ?_ NB183_184.out _ | refine IsS42.far ?_ NB183_186.out _) | exact HI183.out)⟩, ⟨by repeat (first | (with_reducible first | exact HB.out | apply below_alloc | apply pw_below_drewN | apply below_drew1 | refine below_set ?_ (IsS42.ge HI183.out) | refine below_set ?_ GE184.out | refine below_set ?_ GE186.out) | exact HB.out)⟩⟩
                                  · replace c46 := Bool.eq_false_iff.mpr c46
                                    subst c46
                                    have H1 : (some false) = some r := by rw [if_neg (show ¬ (false = true) by decide)] at H; exact H
                                    clear H
                                    have H := H1
                                    clear H1
                                    obtain rfl := Option.some.inj H
                                    go_wp2_with (first | ((with_reducible refine gate_callee (f := 11) rfl ?_); refine goesL_ (some 111) rfl rfl Try.func11 (by kernel_rfl) rfl #[.pointer (some ⟨g183, 0, none⟩), .string x12_3] rfl (by (try simp only [List.map_toArray, List.map_cons, List.map_nil]); first | done | rfl | (simp only [List.length_drop, List.length_take]; rfl)) ?_; (with_reducible refine (ping_Health_Got.calls k3 g183 x184000_3 x184001_3 x184002_3 x184003_3 x184004_3 x184005_3 x12_3 true t204 t205 t206 t207 t208 t209 w _ ?side1 ?side2 A43.out).mono ?_); (case side1 => repeat (first | (with_reducible first | exact HI183.out | apply IsS42.alloc | apply IsS42.drewN | apply IsS42.drew | apply IsS42.set_0 | apply IsS42.set_1 | apply IsS42.set_2 | apply IsS42.set_3 | apply IsS42.set_4 | apply IsS42.set_5 | refine IsS42.far ?_ NB183_184.out _ | refine IsS42.far ?_ NB183_186.out _) | exact HI183.out)); (case side2 => repeat (first | (with_reducible first | exact HB.out | apply below_alloc | apply pw_below_drewN | apply below_drew1 | refine below_set ?_ (IsS42.ge HI183.out) | refine below_set ?_ GE184.out | refine below_set ?_ GE186.out) | exact HB.out)); rintro e w49 ⟨rfl, hi, hb, hk⟩; refine ⟨_, rfl, ?_⟩; have n0_ := Aside0.mk (KeepBut.blk hk (g' := gb184) (o := .cells #[.int .i64 x185000_3, .int .i64 x185001_3, .int .i64 x185002_3, .int .i64 x185003_3, .int .i64 x185004_3, .bool x185005_3] 32 (0, 0)) (by (with_reducible repeat (first | refine blk_drewN ?_ _ | refine blk_drew ?_ | refine blk_alloc ?_ _)); refine blk_far ?_ NB184_186.out _; (with_reducible repeat (first | refine blk_drewN ?_ _ | refine blk_drew ?_ | refine blk_alloc ?_ _)); refine blk_far ?_ NB184_186.out _; (with_reducible repeat (first | refine blk_drewN ?_ _ | refine blk_drew ?_ | refine blk_alloc ?_ _)); exact BK184.out) NB184_183.out (by simp)); have n1_ := Aside0.mk (KeepBut.blk hk (g' := gb186) (o := .cells #[.int .i64 ((rd_T34 l2 x74_3).f0), .string ((rd_T34 l2 x74_3).f1)] 34 (0, 0)) (by (with_reducible repeat (first | refine blk_drewN ?_ _ | refine blk_drew ?_ | refine blk_alloc ?_ _)); refine blk_put (cs := #[.int .i64 ((rd_T34 l2 x74_3).f0), .string (⟨#[]⟩ : ByteArray)]) ?_ 1 _ rfl; (with_reducible repeat (first | refine blk_drewN ?_ _ | refine blk_drew ?_ | refine blk_alloc ?_ _)); refine blk_put (cs := #[.int .i64 0, .string (⟨#[]⟩ : ByteArray)]) ?_ 0 _ rfl; (with_reducible repeat (first | refine blk_drewN ?_ _ | refine blk_drew ?_ | refine blk_alloc ?_ _)); exact BK186.out) NB186_183.out (by simp)); have n2_ := Aside0.mk (hb); have n3_ := Aside0.mk (hi); clear BK184; clear BK186; clear HB; clear HI183; have BK184 := n0_; have BK186 := n1_; have HB := n2_; have HI183 := n3_; clear n0_ n1_ n2_ n3_; (try clear hb); (try clear hb2); (try clear hk); (try clear hi)) | ((with_reducible refine gate_callee (f := 15) rfl ?_); refine goesL_ (some 114) rfl rfl Try.func15 (by kernel_rfl) rfl #[.pointer (some ⟨gb184, 0, none⟩), .string x12_3] rfl (by (try simp only [List.map_toArray, List.map_cons, List.map_nil]); first | done | rfl | (simp only [List.length_drop, List.length_take]; rfl)) ?_; (with_reducible refine (bywashref1_Health_Got.calls k3 gb184 x185000_3 x185001_3 x185002_3 x185003_3 x185004_3 x185005_3 x12_3 false t211 t212 t213 t214 t215 t216 w _ ?side1 ?side2 A44.out).mono ?_); (case side1 => exact ⟨by (with_reducible repeat (first | refine blk_drewN ?_ _ | refine blk_drew ?_ | refine blk_alloc ?_ _)); exact BK184.out, GE184.out⟩); (case side2 => repeat (first | (with_reducible first | exact HB.out | apply below_alloc | apply pw_below_drewN | apply below_drew1 | refine below_set ?_ (IsS42.ge HI183.out) | refine below_set ?_ GE184.out | refine below_set ?_ GE186.out) | exact HB.out)); rintro e w50 ⟨rfl, hi, hb, hk⟩; refine ⟨_, rfl, ?_⟩; have n0_ := Aside0.mk (hi.1); have n1_ := Aside0.mk (show IsS42 w _ g183 t204 t205 t206 t207 t208 t209 from ⟨KeepBut.blk hk (show IsS42 w _ g183 t204 t205 t206 t207 t208 t209 from by repeat (first | (with_reducible first | exact HI183.out | apply IsS42.alloc | apply IsS42.drewN | apply IsS42.drew | apply IsS42.set_0 | apply IsS42.set_1 | apply IsS42.set_2 | apply IsS42.set_3 | apply IsS42.set_4 | apply IsS42.set_5 | refine IsS42.far ?_ NB183_184.out _ | refine IsS42.far ?_ NB183_186.out _) | exact HI183.out)).1 NB183_184.out (by simp), (HI183.out).2⟩); have n2_ := Aside0.mk (KeepBut.blk hk (g' := gb186) (o := .cells #[.int .i64 ((rd_T34 l2 x74_3).f0), .string ((rd_T34 l2 x74_3).f1)] 34 (0, 0)) (by (with_reducible repeat (first | refine blk_drewN ?_ _ | refine blk_drew ?_ | refine blk_alloc ?_ _)); exact BK186.out) NB186_184.out (by simp)); have n3_ := Aside0.mk (hb); clear BK184; clear HI183; clear BK186; clear HB; have BK184 := n0_; have HI183 := n1_; have BK186 := n2_; have HB := n3_; clear n0_ n1_ n2_ n3_; (try clear hb); (try clear hb2); (try clear hk); (try clear hi)))
                                    go_ret
                                    exact ⟨by first | rfl | (simp [errW_none, errW_some] <;> rfl) | (simp [*, errW_none, errW_some] <;> rfl), by repeat (first | (with_reducible first | exact HB.out | apply below_alloc | apply pw_below_drewN | apply below_drew1 | refine below_set ?_ (IsS42.ge HI183.out) | refine below_set ?_ GE184.out | refine below_set ?_ GE186.out) | exact HB.out)⟩
                                · replace c45 := Bool.eq_false_iff.mpr c45
                                  subst c45
                                  have H1 : (if t210 = true then (some false) else (bywashlaw17_PingPlays.j4 k3 x12_3 l2 (l2.length : Int) x74_3 t204 t205 t206 t207 t208 t209 t211 t212 t213 t214 t215 t216)) = some r := by rw [if_neg (show ¬ (false = true) by decide)] at H; exact H
                                  clear H
                                  have H := H1
                                  clear H1
                                  by_cases c51 : t210 = true
                                  · subst c51
                                    have H1 : (some false) = some r := by rw [if_pos rfl] at H; exact H
                                    clear H
                                    have H := H1
                                    clear H1
                                    obtain rfl := Option.some.inj H
                                    go_wp2_with (first | ((with_reducible refine gate_callee (f := 11) rfl ?_); refine goesL_ (some 111) rfl rfl Try.func11 (by kernel_rfl) rfl #[.pointer (some ⟨g183, 0, none⟩), .string x12_3] rfl (by (try simp only [List.map_toArray, List.map_cons, List.map_nil]); first | done | rfl | (simp only [List.length_drop, List.length_take]; rfl)) ?_; (with_reducible refine (ping_Health_Got.calls k3 g183 x184000_3 x184001_3 x184002_3 x184003_3 x184004_3 x184005_3 x12_3 false t204 t205 t206 t207 t208 t209 w _ ?side1 ?side2 A43.out).mono ?_); (case side1 => repeat (first | (with_reducible first | exact HI183.out | apply IsS42.alloc | apply IsS42.drewN | apply IsS42.drew | apply IsS42.set_0 | apply IsS42.set_1 | apply IsS42.set_2 | apply IsS42.set_3 | apply IsS42.set_4 | apply IsS42.set_5 | refine IsS42.far ?_ NB183_184.out _ | refine IsS42.far ?_ NB183_186.out _) | exact HI183.out)); (case side2 => repeat (first | (with_reducible first | exact HB.out | apply below_alloc | apply pw_below_drewN | apply below_drew1 | refine below_set ?_ (IsS42.ge HI183.out) | refine below_set ?_ GE184.out | refine below_set ?_ GE186.out) | exact HB.out)); rintro e w52 ⟨rfl, hi, hb, hk⟩; refine ⟨_, rfl, ?_⟩; have n0_ := Aside0.mk (KeepBut.blk hk (g' := gb184) (o := .cells #[.int .i64 x185000_3, .int .i64 x185001_3, .int .i64 x185002_3, .int .i64 x185003_3, .int .i64 x185004_3, .bool x185005_3] 32 (0, 0)) (by (with_reducible repeat (first | refine blk_drewN ?_ _ | refine blk_drew ?_ | refine blk_alloc ?_ _)); refine blk_far ?_ NB184_186.out _; (with_reducible repeat (first | refine blk_drewN ?_ _ | refine blk_drew ?_ | refine blk_alloc ?_ _)); refine blk_far ?_ NB184_186.out _; (with_reducible repeat (first | refine blk_drewN ?_ _ | refine blk_drew ?_ | refine blk_alloc ?_ _)); exact BK184.out) NB184_183.out (by simp)); have n1_ := Aside0.mk (KeepBut.blk hk (g' := gb186) (o := .cells #[.int .i64 ((rd_T34 l2 x74_3).f0), .string ((rd_T34 l2 x74_3).f1)] 34 (0, 0)) (by (with_reducible repeat (first | refine blk_drewN ?_ _ | refine blk_drew ?_ | refine blk_alloc ?_ _)); refine blk_put (cs := #[.int .i64 ((rd_T34 l2 x74_3).f0), .string (⟨#[]⟩ : ByteArray)]) ?_ 1 _ rfl; (with_reducible repeat (first | refine blk_drewN ?_ _ | refine blk_drew ?_ | refine blk_alloc ?_ _)); refine blk_put (cs := #[.int .i64 0, .string (⟨#[]⟩ : ByteArray)]) ?_ 0 _ rfl; (with_reducible repeat (first | refine blk_drewN ?_ _ | refine blk_drew ?_ | refine blk_alloc ?_ _)); exact BK186.out) NB186_183.out (by simp)); have n2_ := Aside0.mk (hb); have n3_ := Aside0.mk (hi); clear BK184; clear BK186; clear HB; clear HI183; have BK184 := n0_; have BK186 := n1_; have HB := n2_; have HI183 := n3_; clear n0_ n1_ n2_ n3_; (try clear hb); (try clear hb2); (try clear hk); (try clear hi)) | ((with_reducible refine gate_callee (f := 15) rfl ?_); refine goesL_ (some 114) rfl rfl Try.func15 (by kernel_rfl) rfl #[.pointer (some ⟨gb184, 0, none⟩), .string x12_3] rfl (by (try simp only [List.map_toArray, List.map_cons, List.map_nil]); first | done | rfl | (simp only [List.length_drop, List.length_take]; rfl)) ?_; (with_reducible refine (bywashref1_Health_Got.calls k3 gb184 x185000_3 x185001_3 x185002_3 x185003_3 x185004_3 x185005_3 x12_3 true t211 t212 t213 t214 t215 t216 w _ ?side1 ?side2 A44.out).mono ?_); (case side1 => exact ⟨by (with_reducible repeat (first | refine blk_drewN ?_ _ | refine blk_drew ?_ | refine blk_alloc ?_ _)); exact BK184.out, GE184.out⟩); (case side2 => repeat (first | (with_reducible first | exact HB.out | apply below_alloc | apply pw_below_drewN | apply below_drew1 | refine below_set ?_ (IsS42.ge HI183.out) | refine below_set ?_ GE184.out | refine below_set ?_ GE186.out) | exact HB.out)); rintro e w53 ⟨rfl, hi, hb, hk⟩; refine ⟨_, rfl, ?_⟩; have n0_ := Aside0.mk (hi.1); have n1_ := Aside0.mk (show IsS42 w _ g183 t204 t205 t206 t207 t208 t209 from ⟨KeepBut.blk hk (show IsS42 w _ g183 t204 t205 t206 t207 t208 t209 from by repeat (first | (with_reducible first | exact HI183.out | apply IsS42.alloc | apply IsS42.drewN | apply IsS42.drew | apply IsS42.set_0 | apply IsS42.set_1 | apply IsS42.set_2 | apply IsS42.set_3 | apply IsS42.set_4 | apply IsS42.set_5 | refine IsS42.far ?_ NB183_184.out _ | refine IsS42.far ?_ NB183_186.out _) | exact HI183.out)).1 NB183_184.out (by simp), (HI183.out).2⟩); have n2_ := Aside0.mk (KeepBut.blk hk (g' := gb186) (o := .cells #[.int .i64 ((rd_T34 l2 x74_3).f0), .string ((rd_T34 l2 x74_3).f1)] 34 (0, 0)) (by (with_reducible repeat (first | refine blk_drewN ?_ _ | refine blk_drew ?_ | refine blk_alloc ?_ _)); exact BK186.out) NB186_184.out (by simp)); have n3_ := Aside0.mk (hb); clear BK184; clear HI183; clear BK186; clear HB; have BK184 := n0_; have HI183 := n1_; have BK186 := n2_; have HB := n3_; clear n0_ n1_ n2_ n3_; (try clear hb); (try clear hb2); (try clear hk); (try clear hi)))
                                    go_ret
                                    exact ⟨by first | rfl | (simp [errW_none, errW_some] <;> rfl) | (simp [*, errW_none, errW_some] <;> rfl), by repeat (first | (with_reducible first | exact HB.out | apply below_alloc | apply pw_below_drewN | apply below_drew1 | refine below_set ?_ (IsS42.ge HI183.out) | refine below_set ?_ GE184.out | refine below_set ?_ GE186.out) | exact HB.out)⟩
                                  · replace c51 := Bool.eq_false_iff.mpr c51
                                    subst c51
                                    have H1 : (bywashlaw17_PingPlays.j4 k3 x12_3 l2 (l2.length : Int) x74_3 t204 t205 t206 t207 t208 t209 t211 t212 t213 t214 t215 t216) = some r := by rw [if_neg (show ¬ (false = true) by decide)] at H; exact H
                                    clear H
                                    have H := H1
                                    clear H1
                                    have H' := Aside0.mk H
                                    clear H
                                    go_wp2_with (first | ((with_reducible refine gate_callee (f := 11) rfl ?_); refine goesL_ (some 111) rfl rfl Try.func11 (by kernel_rfl) rfl #[.pointer (some ⟨g183, 0, none⟩), .string x12_3] rfl (by (try simp only [List.map_toArray, List.map_cons, List.map_nil]); first | done | rfl | (simp only [List.length_drop, List.length_take]; rfl)) ?_; (with_reducible refine (ping_Health_Got.calls k3 g183 x184000_3 x184001_3 x184002_3 x184003_3 x184004_3 x184005_3 x12_3 false t204 t205 t206 t207 t208 t209 w _ ?side1 ?side2 A43.out).mono ?_); (case side1 => repeat (first | (with_reducible first | exact HI183.out | apply IsS42.alloc | apply IsS42.drewN | apply IsS42.drew | apply IsS42.set_0 | apply IsS42.set_1 | apply IsS42.set_2 | apply IsS42.set_3 | apply IsS42.set_4 | apply IsS42.set_5 | refine IsS42.far ?_ NB183_184.out _ | refine IsS42.far ?_ NB183_186.out _) | exact HI183.out)); (case side2 => repeat (first | (with_reducible first | exact HB.out | apply below_alloc | apply pw_below_drewN | apply below_drew1 | refine below_set ?_ (IsS42.ge HI183.out) | refine below_set ?_ GE184.out | refine below_set ?_ GE186.out) | exact HB.out)); rintro e w54 ⟨rfl, hi, hb, hk⟩; refine ⟨_, rfl, ?_⟩; have n0_ := Aside0.mk (KeepBut.blk hk (g' := gb184) (o := .cells #[.int .i64 x185000_3, .int .i64 x185001_3, .int .i64 x185002_3, .int .i64 x185003_3, .int .i64 x185004_3, .bool x185005_3] 32 (0, 0)) (by (with_reducible repeat (first | refine blk_drewN ?_ _ | refine blk_drew ?_ | refine blk_alloc ?_ _)); refine blk_far ?_ NB184_186.out _; (with_reducible repeat (first | refine blk_drewN ?_ _ | refine blk_drew ?_ | refine blk_alloc ?_ _)); refine blk_far ?_ NB184_186.out _; (with_reducible repeat (first | refine blk_drewN ?_ _ | refine blk_drew ?_ | refine blk_alloc ?_ _)); exact BK184.out) NB184_183.out (by simp)); have n1_ := Aside0.mk (KeepBut.blk hk (g' := gb186) (o := .cells #[.int .i64 ((rd_T34 l2 x74_3).f0), .string ((rd_T34 l2 x74_3).f1)] 34 (0, 0)) (by (with_reducible repeat (first | refine blk_drewN ?_ _ | refine blk_drew ?_ | refine blk_alloc ?_ _)); refine blk_put (cs := #[.int .i64 ((rd_T34 l2 x74_3).f0), .string (⟨#[]⟩ : ByteArray)]) ?_ 1 _ rfl; (with_reducible repeat (first | refine blk_drewN ?_ _ | refine blk_drew ?_ | refine blk_alloc ?_ _)); refine blk_put (cs := #[.int .i64 0, .string (⟨#[]⟩ : ByteArray)]) ?_ 0 _ rfl; (with_reducible repeat (first | refine blk_drewN ?_ _ | refine blk_drew ?_ | refine blk_alloc ?_ _)); exact BK186.out) NB186_183.out (by simp)); have n2_ := Aside0.mk (hb); have n3_ := Aside0.mk (hi); clear BK184; clear BK186; clear HB; clear HI183; have BK184 := n0_; have BK186 := n1_; have HB := n2_; have HI183 := n3_; clear n0_ n1_ n2_ n3_; (try clear hb); (try clear hb2); (try clear hk); (try clear hi)) | ((with_reducible refine gate_callee (f := 15) rfl ?_); refine goesL_ (some 114) rfl rfl Try.func15 (by kernel_rfl) rfl #[.pointer (some ⟨gb184, 0, none⟩), .string x12_3] rfl (by (try simp only [List.map_toArray, List.map_cons, List.map_nil]); first | done | rfl | (simp only [List.length_drop, List.length_take]; rfl)) ?_; (with_reducible refine (bywashref1_Health_Got.calls k3 gb184 x185000_3 x185001_3 x185002_3 x185003_3 x185004_3 x185005_3 x12_3 false t211 t212 t213 t214 t215 t216 w _ ?side1 ?side2 A44.out).mono ?_); (case side1 => exact ⟨by (with_reducible repeat (first | refine blk_drewN ?_ _ | refine blk_drew ?_ | refine blk_alloc ?_ _)); exact BK184.out, GE184.out⟩); (case side2 => repeat (first | (with_reducible first | exact HB.out | apply below_alloc | apply pw_below_drewN | apply below_drew1 | refine below_set ?_ (IsS42.ge HI183.out) | refine below_set ?_ GE184.out | refine below_set ?_ GE186.out) | exact HB.out)); rintro e w55 ⟨rfl, hi, hb, hk⟩; refine ⟨_, rfl, ?_⟩; have n0_ := Aside0.mk (hi.1); have n1_ := Aside0.mk (show IsS42 w _ g183 t204 t205 t206 t207 t208 t209 from ⟨KeepBut.blk hk (show IsS42 w _ g183 t204 t205 t206 t207 t208 t209 from by repeat (first | (with_reducible first | exact HI183.out | apply IsS42.alloc | apply IsS42.drewN | apply IsS42.drew | apply IsS42.set_0 | apply IsS42.set_1 | apply IsS42.set_2 | apply IsS42.set_3 | apply IsS42.set_4 | apply IsS42.set_5 | refine IsS42.far ?_ NB183_184.out _ | refine IsS42.far ?_ NB183_186.out _) | exact HI183.out)).1 NB183_184.out (by simp), (HI183.out).2⟩); have n2_ := Aside0.mk (KeepBut.blk hk (g' := gb186) (o := .cells #[.int .i64 ((rd_T34 l2 x74_3).f0), .string ((rd_T34 l2 x74_3).f1)] 34 (0, 0)) (by (with_reducible repeat (first | refine blk_drewN ?_ _ | refine blk_drew ?_ | refine blk_alloc ?_ _)); exact BK186.out) NB186_184.out (by simp)); have n3_ := Aside0.mk (hb); clear BK184; clear HI183; clear BK186; clear HB; have BK184 := n0_; have HI183 := n1_; have BK186 := n2_; have HB := n3_; clear n0_ n1_ n2_ n3_; (try clear hb); (try clear hb2); (try clear hk); (try clear hi)))
                                    go_meet
                                    case rel => exact ⟨_, (x12_3), (t204), (t205), (t206), (t207), (t208), (t209), (t211), (t212), (t213), (t214), (t215), (t216), (by first | rfl | (simp; done) | (simp [*]; done)), H', ⟨by have := HJ3.out; have := HJ11.out; have := HK3.out; first | omega | exact Nat.le_refl _⟩, ⟨by (with_reducible repeat (first | refine blk_drewN ?_ _ | refine blk_drew ?_ | refine blk_alloc ?_ _)); exact BK184.out⟩, ⟨by (with_reducible repeat (first | refine blk_drewN ?_ _ | refine blk_drew ?_ | refine blk_alloc ?_ _)); exact BK186.out⟩, ⟨by repeat (first | (with_reducible first | exact HI183.out | apply IsS42.alloc | apply IsS42.drewN | apply IsS42.drew | apply IsS42.set_0 | apply IsS42.set_1 | apply IsS42.set_2 | apply IsS42.set_3 | apply IsS42.set_4 | apply IsS42.set_5 | refine IsS42.far ?_ NB183_184.out _ | refine IsS42.far ?_ NB183_186.out _) | exact HI183.out)⟩, ⟨by repeat (first | (with_reducible first | exact HB.out | apply below_alloc | apply pw_below_drewN | apply below_drew1 | refine below_set ?_ (IsS42.ge HI183.out) | refine below_set ?_ GE184.out | refine below_set ?_ GE186.out) | exact HB.out)⟩⟩
                              · rw [if_neg c42] at H
                                have c42b0 : (((rd_T34 l2 x74_3).f0) == 2) = false := beq_eq_false_iff_ne.mpr c42
                                have c42b1 : (((rd_T34 l2 x74_3).f0) != 2) = true := bne_iff_ne.mpr c42
                                by_cases c56 : ((rd_T34 l2 x74_3).f0) = 3
                                · rw [if_pos c56] at H
                                  have c56b0 : (((rd_T34 l2 x74_3).f0) == 3) = true := beq_iff_eq.mpr c56
                                  have c56b1 : (((rd_T34 l2 x74_3).f0) != 3) = false := bne_eq_false_iff_eq.mpr c56
                                  clear c56
                                  replace H := Option.bind_eq_some_iff.mp H
                                  obtain ⟨⟨t217, t218, t219, t220, t221, t222, t223⟩, A570, H⟩ := H
                                  replace H : ((bywashref1_Health_Got.f k3 x185000_3 x185001_3 x185002_3 x185003_3 x185004_3 x185005_3 ((rd_T34 l2 x74_3).f1)).bind fun bt224 => (if t217 = true then (if bt224.1 = true then (bywashlaw17_PingPlays.j4 k3 x12_3 l2 (l2.length : Int) x74_3 t218 t219 t220 t221 t222 t223 bt224.2.1 bt224.2.2.1 bt224.2.2.2.1 bt224.2.2.2.2.1 bt224.2.2.2.2.2.1 bt224.2.2.2.2.2.2) else (some false)) else (if bt224.1 = true then (some false) else (bywashlaw17_PingPlays.j4 k3 x12_3 l2 (l2.length : Int) x74_3 t218 t219 t220 t221 t222 t223 bt224.2.1 bt224.2.2.1 bt224.2.2.2.1 bt224.2.2.2.2.1 bt224.2.2.2.2.2.1 bt224.2.2.2.2.2.2)))) = some r := H
                                  have A57 := Aside0.mk A570
                                  clear A570
                                  replace H := Option.bind_eq_some_iff.mp H
                                  obtain ⟨⟨t224, t225, t226, t227, t228, t229, t230⟩, A580, H⟩ := H
                                  replace H : (if t217 = true then (if t224 = true then (bywashlaw17_PingPlays.j4 k3 x12_3 l2 (l2.length : Int) x74_3 t218 t219 t220 t221 t222 t223 t225 t226 t227 t228 t229 t230) else (some false)) else (if t224 = true then (some false) else (bywashlaw17_PingPlays.j4 k3 x12_3 l2 (l2.length : Int) x74_3 t218 t219 t220 t221 t222 t223 t225 t226 t227 t228 t229 t230))) = some r := H
                                  have A58 := Aside0.mk A580
                                  clear A580
                                  by_cases c59 : t217 = true
                                  · subst c59
                                    have H1 : (if t224 = true then (bywashlaw17_PingPlays.j4 k3 x12_3 l2 (l2.length : Int) x74_3 t218 t219 t220 t221 t222 t223 t225 t226 t227 t228 t229 t230) else (some false)) = some r := by rw [if_pos rfl] at H; exact H
                                    clear H
                                    have H := H1
                                    clear H1
                                    by_cases c60 : t224 = true
                                    · subst c60
                                      have H1 : (bywashlaw17_PingPlays.j4 k3 x12_3 l2 (l2.length : Int) x74_3 t218 t219 t220 t221 t222 t223 t225 t226 t227 t228 t229 t230) = some r := by rw [if_pos rfl] at H; exact H
                                      clear H
                                      have H := H1
                                      clear H1
                                      have H' := Aside0.mk H
                                      clear H
                                      try go_wp2
                                      have n0_ : Aside0 (((w26.setCell ⟨gb186, 0, none⟩ (.int .i64 ((rd_T34 l2 x74_3).f0))).setCell ⟨gb186, 1, none⟩ (.string ((rd_T34 l2 x74_3).f1))).heap[gb184]? = some (.cells #[.int .i64 x185000_3, .int .i64 x185001_3, .int .i64 x185002_3, .int .i64 x185003_3, .int .i64 x185004_3, .bool x185005_3] 32 (0, 0))) := ⟨by (with_reducible repeat (first | refine blk_drewN ?_ _ | refine blk_drew ?_ | refine blk_alloc ?_ _)); refine blk_far ?_ NB184_186.out _; (with_reducible repeat (first | refine blk_drewN ?_ _ | refine blk_drew ?_ | refine blk_alloc ?_ _)); refine blk_far ?_ NB184_186.out _; (with_reducible repeat (first | refine blk_drewN ?_ _ | refine blk_drew ?_ | refine blk_alloc ?_ _)); exact BK184.out⟩
                                      have n1_ : Aside0 (((w26.setCell ⟨gb186, 0, none⟩ (.int .i64 ((rd_T34 l2 x74_3).f0))).setCell ⟨gb186, 1, none⟩ (.string ((rd_T34 l2 x74_3).f1))).heap[gb186]? = some (.cells #[.int .i64 ((rd_T34 l2 x74_3).f0), .string ((rd_T34 l2 x74_3).f1)] 34 (0, 0))) := ⟨by (with_reducible repeat (first | refine blk_drewN ?_ _ | refine blk_drew ?_ | refine blk_alloc ?_ _)); refine blk_put (cs := #[.int .i64 ((rd_T34 l2 x74_3).f0), .string (⟨#[]⟩ : ByteArray)]) ?_ 1 _ rfl; (with_reducible repeat (first | refine blk_drewN ?_ _ | refine blk_drew ?_ | refine blk_alloc ?_ _)); refine blk_put (cs := #[.int .i64 0, .string (⟨#[]⟩ : ByteArray)]) ?_ 0 _ rfl; (with_reducible repeat (first | refine blk_drewN ?_ _ | refine blk_drew ?_ | refine blk_alloc ?_ _)); exact BK186.out⟩
                                      have n2_ : Aside0 (IsS42 w ((w26.setCell ⟨gb186, 0, none⟩ (.int .i64 ((rd_T34 l2 x74_3).f0))).setCell ⟨gb186, 1, none⟩ (.string ((rd_T34 l2 x74_3).f1))) g183 x184000_3 x184001_3 x184002_3 x184003_3 x184004_3 x184005_3) := ⟨by repeat (first | (with_reducible first | exact HI183.out | apply IsS42.alloc | apply IsS42.drewN | apply IsS42.drew | apply IsS42.set_0 | apply IsS42.set_1 | apply IsS42.set_2 | apply IsS42.set_3 | apply IsS42.set_4 | apply IsS42.set_5 | refine IsS42.far ?_ NB183_184.out _ | refine IsS42.far ?_ NB183_186.out _) | exact HI183.out)⟩
                                      have n3_ : Aside0 (Below w.heap.size w ((w26.setCell ⟨gb186, 0, none⟩ (.int .i64 ((rd_T34 l2 x74_3).f0))).setCell ⟨gb186, 1, none⟩ (.string ((rd_T34 l2 x74_3).f1)))) := ⟨by repeat (first | (with_reducible first | exact HB.out | apply below_alloc | apply pw_below_drewN | apply below_drew1 | refine below_set ?_ (IsS42.ge HI183.out) | refine below_set ?_ GE184.out | refine below_set ?_ GE186.out) | exact HB.out)⟩
                                      (try clear BK184)
                                      (try clear BK186)
                                      (try clear HI183)
                                      (try clear HB)
                                      generalize ((w26.setCell ⟨gb186, 0, none⟩ (.int .i64 ((rd_T34 l2 x74_3).f0))).setCell ⟨gb186, 1, none⟩ (.string ((rd_T34 l2 x74_3).f1))) = w61 at n0_ n1_ n2_ n3_ ⊢
                                      have BK184 := n0_
                                      have BK186 := n1_
                                      have HI183 := n2_
                                      have HB := n3_
                                      clear n0_ n1_ n2_ n3_
                                      have n0_ := Aside0.mk (blk_drew BK184.out)
                                      have n1_ := Aside0.mk (blk_drew BK186.out)
                                      have n2_ := Aside0.mk (IsS42.drew HI183.out)
                                      have n3_ := Aside0.mk (below_drew1 HB.out)
                                      clear BK184
                                      clear BK186
                                      clear HI183
                                      clear HB
                                      have BK184 := n0_
                                      have BK186 := n1_
                                      have HI183 := n2_
                                      have HB := n3_
                                      clear n0_ n1_ n2_ n3_
                                      refine start_ (n := 9) (S := fun w' => w'.cell? ⟨gb186, 0, none⟩ = some (.int .i64 ((rd_T34 l2 x74_3).f0)) ∧ w'.cell? ⟨gb186, 1, none⟩ = some (.string ((rd_T34 l2 x74_3).f1))) (ds := []) #[false, false, false, false, false, false, false, false, false] (by kernel_rfl) rfl rfl ⟨(blk_cell BK186.out 0).trans rfl, (blk_cell BK186.out 1).trans rfl⟩ (fun hHeld => ?_); refine with_tabW bywashlaw17_PingPlays.tab29 bywashlaw17_PingPlays.bits29 (fun HT_ HW_ => ?_)
                                      generalize w61.drew = w62 at BK184 BK186 HI183 HB hHeld ⊢
                                      refine pure_ (i := 0) (N := some 118) (v := ?_) (a' := ?_) #[true, false, false, false, false, false, false, false, false] rfl rfl (any_of HT_.out (by kernel_rfl)) (fun _ _ _ h => h) (Or.inl ⟨by rfl, ?_⟩) ?_ ?_
                                      rotate_left
                                      · intro w'
                                        go_simp
                                        with_reducible rfl
                                      rotate_left
                                      · simp only [Act.put, List.setIfInBounds_toArray, List.set_cons_zero, List.set_cons_succ, i64_w, i32_w]
                                        rfl
                                      refine pure_ (i := 1) (N := some 119) (v := ?_) (a' := ?_) #[true, true, false, false, false, false, false, false, false] rfl rfl (any_of HT_.out (by kernel_rfl)) (fun _ _ _ h => h) (Or.inl ⟨by rfl, ?_⟩) ?_ ?_
                                      rotate_left
                                      · intro w'
                                        go_simp
                                        with_reducible rfl
                                      rotate_left
                                      · simp only [Act.put, List.setIfInBounds_toArray, List.set_cons_zero, List.set_cons_succ, i64_w, i32_w]
                                        rfl
                                      refine pure_ (i := 4) (N := some 122) (v := ?_) (a' := ?_) #[true, true, false, false, true, false, false, false, false] rfl rfl (any_of HT_.out (by kernel_rfl)) (fun _ _ _ h => h) (Or.inl ⟨by rfl, ?_⟩) ?_ ?_
                                      rotate_left
                                      · intro w'
                                        go_simp
                                        with_reducible rfl
                                      rotate_left
                                      · simp only [Act.put, List.setIfInBounds_toArray, List.set_cons_zero, List.set_cons_succ, i64_w, i32_w]
                                        rfl
                                      refine pure_ (i := 5) (N := some 123) (v := ?_) (a' := ?_) #[true, true, false, false, true, true, false, false, false] rfl rfl (any_of HT_.out (by kernel_rfl)) (fun _ _ _ h => h) (Or.inl ⟨by rfl, ?_⟩) ?_ ?_
                                      rotate_left
                                      · intro w'
                                        go_simp
                                        with_reducible rfl
                                      rotate_left
                                      · simp only [Act.put, List.setIfInBounds_toArray, List.set_cons_zero, List.set_cons_succ, i64_w, i32_w]
                                        rfl
                                      refine take_ (i := 2) (N := some 120) (v := ?_) (a' := ?_) #[true, true, true, false, true, true, false, false, false] rfl rfl (take_ofW HT_.out HW_.out (by kernel_rfl)) (fun _ _ _ h => h) (Or.inl ⟨by rfl, ?_⟩) hHeld ?_ ?_
                                      rotate_left
                                      · rintro w' ⟨s0, s1⟩
                                        go_simp
                                        with_reducible rfl
                                      rotate_left
                                      · simp only [Act.put, List.setIfInBounds_toArray, List.set_cons_zero, List.set_cons_succ, i64_w, i32_w]
                                        rfl
                                      refine take_ (i := 6) (N := some 124) (v := ?_) (a' := ?_) #[true, true, true, false, true, true, true, false, false] rfl rfl (take_ofW HT_.out HW_.out (by kernel_rfl)) (fun _ _ _ h => h) (Or.inl ⟨by rfl, ?_⟩) hHeld ?_ ?_
                                      rotate_left
                                      · rintro w' ⟨s0, s1⟩
                                        go_simp
                                        with_reducible rfl
                                      rotate_left
                                      · simp only [Act.put, List.setIfInBounds_toArray, List.set_cons_zero, List.set_cons_succ, i64_w, i32_w]
                                        rfl
                                      refine one_ (i := 3) (N := some 121) #[true, true, true, true, true, true, true, false, false] rfl rfl (one_of HT_.out (by kernel_rfl)) (by decide) (fun K hK => ?_)
                                      refine goes_ Try.func11 (by kernel_rfl) rfl #[.pointer (some ⟨g183, 0, none⟩), .string ((rd_T34 l2 x74_3).f1)] (by rfl) rfl rfl (by (try simp only [List.map_toArray, List.map_cons, List.map_nil]); first | done | rfl | (simp only [List.length_drop, List.length_take]; rfl)) ?_
                                      with_reducible refine (ping_Health_Got.calls k3 g183 x184000_3 x184001_3 x184002_3 x184003_3 x184004_3 x184005_3 ((rd_T34 l2 x74_3).f1) true t218 t219 t220 t221 t222 t223 w _ ?side1 ?side2 A57.out).mono ?_
                                      (case side1 => repeat (first | (with_reducible first | exact HI183.out | apply IsS42.alloc | apply IsS42.drewN | apply IsS42.drew | apply IsS42.set_0 | apply IsS42.set_1 | apply IsS42.set_2 | apply IsS42.set_3 | apply IsS42.set_4 | apply IsS42.set_5 | refine IsS42.far ?_ NB183_184.out _ | refine IsS42.far ?_ NB183_186.out _) | exact HI183.out))
                                      (case side2 => repeat (first | (with_reducible first | exact HB.out | apply below_alloc | apply pw_below_drewN | apply below_drew1 | refine below_set ?_ (IsS42.ge HI183.out) | refine below_set ?_ GE184.out | refine below_set ?_ GE186.out) | exact HB.out))
                                      rintro e w63 ⟨rfl, hi, hb, hk⟩
                                      refine ⟨_, rfl, ?_⟩
                                      have n0_ := Aside0.mk (KeepBut.blk hk (g' := gb184) (o := .cells #[.int .i64 x185000_3, .int .i64 x185001_3, .int .i64 x185002_3, .int .i64 x185003_3, .int .i64 x185004_3, .bool x185005_3] 32 (0, 0)) (by (with_reducible repeat (first | refine blk_drewN ?_ _ | refine blk_drew ?_ | refine blk_alloc ?_ _)); exact BK184.out) NB184_183.out (by simp))
                                      have n1_ := Aside0.mk (KeepBut.blk hk (g' := gb186) (o := .cells #[.int .i64 ((rd_T34 l2 x74_3).f0), .string ((rd_T34 l2 x74_3).f1)] 34 (0, 0)) (by (with_reducible repeat (first | refine blk_drewN ?_ _ | refine blk_drew ?_ | refine blk_alloc ?_ _)); exact BK186.out) NB186_183.out (by simp))
                                      have n2_ := Aside0.mk (hb)
                                      have n3_ := Aside0.mk (hi)
                                      clear BK184
                                      clear BK186
                                      clear HB
                                      clear HI183
                                      have BK184 := n0_
                                      have BK186 := n1_
                                      have HB := n2_
                                      have HI183 := n3_
                                      clear n0_ n1_ n2_ n3_
                                      (try clear hb)
                                      (try clear hb2)
                                      (try clear hk)
                                      (try clear hi)
                                      refine hK.out _ _ ⟨(blk_cell BK186.out 0).trans rfl, (blk_cell BK186.out 1).trans rfl⟩ (fun hHeld => ?_)
                                      clear hK K
                                      refine norm_ (a' := ?_) ?_ ?_
                                      rotate_left
                                      · show Act.put _ (some 121) _ = _
                                        simp only [Act.put, List.setIfInBounds_toArray, List.set_cons_zero, List.set_cons_succ, i64_w, i32_w]
                                        rfl
                                      refine one_ (i := 7) (N := some 125) #[true, true, true, true, true, true, true, true, false] rfl rfl (one_of HT_.out (by kernel_rfl)) (by decide) (fun K hK => ?_)
                                      refine goes_ Try.func15 (by kernel_rfl) rfl #[.pointer (some ⟨gb184, 0, none⟩), .string ((rd_T34 l2 x74_3).f1)] (by rfl) rfl rfl (by (try simp only [List.map_toArray, List.map_cons, List.map_nil]); first | done | rfl | (simp only [List.length_drop, List.length_take]; rfl)) ?_
                                      with_reducible refine (bywashref1_Health_Got.calls k3 gb184 x185000_3 x185001_3 x185002_3 x185003_3 x185004_3 x185005_3 ((rd_T34 l2 x74_3).f1) true t225 t226 t227 t228 t229 t230 w _ ?side1 ?side2 A58.out).mono ?_
                                      (case side1 => exact ⟨by (with_reducible repeat (first | refine blk_drewN ?_ _ | refine blk_drew ?_ | refine blk_alloc ?_ _)); exact BK184.out, GE184.out⟩)
                                      (case side2 => repeat (first | (with_reducible first | exact HB.out | apply below_alloc | apply pw_below_drewN | apply below_drew1 | refine below_set ?_ (IsS42.ge HI183.out) | refine below_set ?_ GE184.out | refine below_set ?_ GE186.out) | exact HB.out))
                                      rintro e w64 ⟨rfl, hi, hb, hk⟩
                                      refine ⟨_, rfl, ?_⟩
                                      have n0_ := Aside0.mk (hi.1)
                                      have n1_ := Aside0.mk (show IsS42 w _ g183 t218 t219 t220 t221 t222 t223 from ⟨KeepBut.blk hk (show IsS42 w _ g183 t218 t219 t220 t221 t222 t223 from by repeat (first | (with_reducible first | exact HI183.out | apply IsS42.alloc | apply IsS42.drewN | apply IsS42.drew | apply IsS42.set_0 | apply IsS42.set_1 | apply IsS42.set_2 | apply IsS42.set_3 | apply IsS42.set_4 | apply IsS42.set_5 | refine IsS42.far ?_ NB183_184.out _ | refine IsS42.far ?_ NB183_186.out _) | exact HI183.out)).1 NB183_184.out (by simp), (HI183.out).2⟩)
                                      have n2_ := Aside0.mk (KeepBut.blk hk (g' := gb186) (o := .cells #[.int .i64 ((rd_T34 l2 x74_3).f0), .string ((rd_T34 l2 x74_3).f1)] 34 (0, 0)) (by (with_reducible repeat (first | refine blk_drewN ?_ _ | refine blk_drew ?_ | refine blk_alloc ?_ _)); exact BK186.out) NB186_184.out (by simp))
                                      have n3_ := Aside0.mk (hb)
                                      clear BK184
                                      clear HI183
                                      clear BK186
                                      clear HB
                                      have BK184 := n0_
                                      have HI183 := n1_
                                      have BK186 := n2_
                                      have HB := n3_
                                      clear n0_ n1_ n2_ n3_
                                      (try clear hb)
                                      (try clear hb2)
                                      (try clear hk)
                                      (try clear hi)
                                      refine hK.out _ _ ⟨(blk_cell BK186.out 0).trans rfl, (blk_cell BK186.out 1).trans rfl⟩ (fun hHeld => ?_)
                                      clear hK K
                                      refine norm_ (a' := ?_) ?_ ?_
                                      rotate_left
                                      · show Act.put _ (some 125) _ = _
                                        simp only [Act.put, List.setIfInBounds_toArray, List.set_cons_zero, List.set_cons_succ, i64_w, i32_w]
                                        rfl
                                      refine pure_ (i := 8) (N := some 126) (v := ?_) (a' := ?_) #[true, true, true, true, true, true, true, true, true] rfl rfl (any_of HT_.out (by kernel_rfl)) (fun _ _ _ h => h) (Or.inl ⟨by rfl, ?_⟩) ?_ ?_
                                      rotate_left
                                      · intro w'
                                        go_simp
                                        with_reducible rfl
                                      rotate_left
                                      · simp only [Act.put, List.setIfInBounds_toArray, List.set_cons_zero, List.set_cons_succ, i64_w, i32_w]
                                        rfl
                                      refine done_ (done_of HT_.out (by kernel_rfl)) ?_
                                      try go_wp2
                                      go_meet
                                      case rel => exact ⟨_, (x12_3), (t218), (t219), (t220), (t221), (t222), (t223), (t225), (t226), (t227), (t228), (t229), (t230), (by first | rfl | (simp; done) | (simp [*]; done)), H', ⟨by have := HJ3.out; have := HJ11.out; have := HK3.out; first | omega | exact Nat.le_refl _⟩, ⟨by (with_reducible repeat (first | refine blk_drewN ?_ _ | refine blk_drew ?_ | refine blk_alloc ?_ _)); exact BK184.out⟩, ⟨by (with_reducible repeat (first | refine blk_drewN ?_ _ | refine blk_drew ?_ | refine blk_alloc ?_ _)); exact BK186.out⟩, ⟨by repeat (first | (with_reducible first | exact HI183.out | apply IsS42.alloc | apply IsS42.drewN | apply IsS42.drew | apply IsS42.set_0 | apply IsS42.set_1 | apply IsS42.set_2 | apply IsS42.set_3 | apply IsS42.set_4 | apply IsS42.set_5 | refine IsS42.far ?_ NB183_184.out _ | refine IsS42.far ?_ NB183_186.out _) | exact HI183.out)⟩, ⟨by repeat (first | (with_reducible first | exact HB.out | apply below_alloc | apply pw_below_drewN | apply below_drew1 | refine below_set ?_ (IsS42.ge HI183.out) | refine below_set ?_ GE184.out | refine below_set ?_ GE186.out) | exact HB.out)⟩⟩
                                    · replace c60 := Bool.eq_false_iff.mpr c60
                                      subst c60
                                      have H1 : (some false) = some r := by rw [if_neg (show ¬ (false = true) by decide)] at H; exact H
                                      clear H
                                      have H := H1
                                      clear H1
                                      obtain rfl := Option.some.inj H
                                      try go_wp2
                                      have n0_ : Aside0 (((w26.setCell ⟨gb186, 0, none⟩ (.int .i64 ((rd_T34 l2 x74_3).f0))).setCell ⟨gb186, 1, none⟩ (.string ((rd_T34 l2 x74_3).f1))).heap[gb184]? = some (.cells #[.int .i64 x185000_3, .int .i64 x185001_3, .int .i64 x185002_3, .int .i64 x185003_3, .int .i64 x185004_3, .bool x185005_3] 32 (0, 0))) := ⟨by (with_reducible repeat (first | refine blk_drewN ?_ _ | refine blk_drew ?_ | refine blk_alloc ?_ _)); refine blk_far ?_ NB184_186.out _; (with_reducible repeat (first | refine blk_drewN ?_ _ | refine blk_drew ?_ | refine blk_alloc ?_ _)); refine blk_far ?_ NB184_186.out _; (with_reducible repeat (first | refine blk_drewN ?_ _ | refine blk_drew ?_ | refine blk_alloc ?_ _)); exact BK184.out⟩
                                      have n1_ : Aside0 (((w26.setCell ⟨gb186, 0, none⟩ (.int .i64 ((rd_T34 l2 x74_3).f0))).setCell ⟨gb186, 1, none⟩ (.string ((rd_T34 l2 x74_3).f1))).heap[gb186]? = some (.cells #[.int .i64 ((rd_T34 l2 x74_3).f0), .string ((rd_T34 l2 x74_3).f1)] 34 (0, 0))) := ⟨by (with_reducible repeat (first | refine blk_drewN ?_ _ | refine blk_drew ?_ | refine blk_alloc ?_ _)); refine blk_put (cs := #[.int .i64 ((rd_T34 l2 x74_3).f0), .string (⟨#[]⟩ : ByteArray)]) ?_ 1 _ rfl; (with_reducible repeat (first | refine blk_drewN ?_ _ | refine blk_drew ?_ | refine blk_alloc ?_ _)); refine blk_put (cs := #[.int .i64 0, .string (⟨#[]⟩ : ByteArray)]) ?_ 0 _ rfl; (with_reducible repeat (first | refine blk_drewN ?_ _ | refine blk_drew ?_ | refine blk_alloc ?_ _)); exact BK186.out⟩
                                      have n2_ : Aside0 (IsS42 w ((w26.setCell ⟨gb186, 0, none⟩ (.int .i64 ((rd_T34 l2 x74_3).f0))).setCell ⟨gb186, 1, none⟩ (.string ((rd_T34 l2 x74_3).f1))) g183 x184000_3 x184001_3 x184002_3 x184003_3 x184004_3 x184005_3) := ⟨by repeat (first | (with_reducible first | exact HI183.out | apply IsS42.alloc | apply IsS42.drewN | apply IsS42.drew | apply IsS42.set_0 | apply IsS42.set_1 | apply IsS42.set_2 | apply IsS42.set_3 | apply IsS42.set_4 | apply IsS42.set_5 | refine IsS42.far ?_ NB183_184.out _ | refine IsS42.far ?_ NB183_186.out _) | exact HI183.out)⟩
                                      have n3_ : Aside0 (Below w.heap.size w ((w26.setCell ⟨gb186, 0, none⟩ (.int .i64 ((rd_T34 l2 x74_3).f0))).setCell ⟨gb186, 1, none⟩ (.string ((rd_T34 l2 x74_3).f1)))) := ⟨by repeat (first | (with_reducible first | exact HB.out | apply below_alloc | apply pw_below_drewN | apply below_drew1 | refine below_set ?_ (IsS42.ge HI183.out) | refine below_set ?_ GE184.out | refine below_set ?_ GE186.out) | exact HB.out)⟩
                                      (try clear BK184)
                                      (try clear BK186)
                                      (try clear HI183)
                                      (try clear HB)
                                      generalize ((w26.setCell ⟨gb186, 0, none⟩ (.int .i64 ((rd_T34 l2 x74_3).f0))).setCell ⟨gb186, 1, none⟩ (.string ((rd_T34 l2 x74_3).f1))) = w65 at n0_ n1_ n2_ n3_ ⊢
                                      have BK184 := n0_
                                      have BK186 := n1_
                                      have HI183 := n2_
                                      have HB := n3_
                                      clear n0_ n1_ n2_ n3_
                                      have n0_ := Aside0.mk (blk_drew BK184.out)
                                      have n1_ := Aside0.mk (blk_drew BK186.out)
                                      have n2_ := Aside0.mk (IsS42.drew HI183.out)
                                      have n3_ := Aside0.mk (below_drew1 HB.out)
                                      clear BK184
                                      clear BK186
                                      clear HI183
                                      clear HB
                                      have BK184 := n0_
                                      have BK186 := n1_
                                      have HI183 := n2_
                                      have HB := n3_
                                      clear n0_ n1_ n2_ n3_
                                      refine start_ (n := 9) (S := fun w' => w'.cell? ⟨gb186, 0, none⟩ = some (.int .i64 ((rd_T34 l2 x74_3).f0)) ∧ w'.cell? ⟨gb186, 1, none⟩ = some (.string ((rd_T34 l2 x74_3).f1))) (ds := []) #[false, false, false, false, false, false, false, false, false] (by kernel_rfl) rfl rfl ⟨(blk_cell BK186.out 0).trans rfl, (blk_cell BK186.out 1).trans rfl⟩ (fun hHeld => ?_); refine with_tabW bywashlaw17_PingPlays.tab29 bywashlaw17_PingPlays.bits29 (fun HT_ HW_ => ?_)
                                      generalize w65.drew = w66 at BK184 BK186 HI183 HB hHeld ⊢
                                      refine pure_ (i := 0) (N := some 118) (v := ?_) (a' := ?_) #[true, false, false, false, false, false, false, false, false] rfl rfl (any_of HT_.out (by kernel_rfl)) (fun _ _ _ h => h) (Or.inl ⟨by rfl, ?_⟩) ?_ ?_
                                      rotate_left
                                      · intro w'
                                        go_simp
                                        with_reducible rfl
                                      rotate_left
                                      · simp only [Act.put, List.setIfInBounds_toArray, List.set_cons_zero, List.set_cons_succ, i64_w, i32_w]
                                        rfl
                                      refine pure_ (i := 1) (N := some 119) (v := ?_) (a' := ?_) #[true, true, false, false, false, false, false, false, false] rfl rfl (any_of HT_.out (by kernel_rfl)) (fun _ _ _ h => h) (Or.inl ⟨by rfl, ?_⟩) ?_ ?_
                                      rotate_left
                                      · intro w'
                                        go_simp
                                        with_reducible rfl
                                      rotate_left
                                      · simp only [Act.put, List.setIfInBounds_toArray, List.set_cons_zero, List.set_cons_succ, i64_w, i32_w]
                                        rfl
                                      refine pure_ (i := 4) (N := some 122) (v := ?_) (a' := ?_) #[true, true, false, false, true, false, false, false, false] rfl rfl (any_of HT_.out (by kernel_rfl)) (fun _ _ _ h => h) (Or.inl ⟨by rfl, ?_⟩) ?_ ?_
                                      rotate_left
                                      · intro w'
                                        go_simp
                                        with_reducible rfl
                                      rotate_left
                                      · simp only [Act.put, List.setIfInBounds_toArray, List.set_cons_zero, List.set_cons_succ, i64_w, i32_w]
                                        rfl
                                      refine pure_ (i := 5) (N := some 123) (v := ?_) (a' := ?_) #[true, true, false, false, true, true, false, false, false] rfl rfl (any_of HT_.out (by kernel_rfl)) (fun _ _ _ h => h) (Or.inl ⟨by rfl, ?_⟩) ?_ ?_
                                      rotate_left
                                      · intro w'
                                        go_simp
                                        with_reducible rfl
                                      rotate_left
                                      · simp only [Act.put, List.setIfInBounds_toArray, List.set_cons_zero, List.set_cons_succ, i64_w, i32_w]
                                        rfl
                                      refine take_ (i := 2) (N := some 120) (v := ?_) (a' := ?_) #[true, true, true, false, true, true, false, false, false] rfl rfl (take_ofW HT_.out HW_.out (by kernel_rfl)) (fun _ _ _ h => h) (Or.inl ⟨by rfl, ?_⟩) hHeld ?_ ?_
                                      rotate_left
                                      · rintro w' ⟨s0, s1⟩
                                        go_simp
                                        with_reducible rfl
                                      rotate_left
                                      · simp only [Act.put, List.setIfInBounds_toArray, List.set_cons_zero, List.set_cons_succ, i64_w, i32_w]
                                        rfl
                                      refine take_ (i := 6) (N := some 124) (v := ?_) (a' := ?_) #[true, true, true, false, true, true, true, false, false] rfl rfl (take_ofW HT_.out HW_.out (by kernel_rfl)) (fun _ _ _ h => h) (Or.inl ⟨by rfl, ?_⟩) hHeld ?_ ?_
                                      rotate_left
                                      · rintro w' ⟨s0, s1⟩
                                        go_simp
                                        with_reducible rfl
                                      rotate_left
                                      · simp only [Act.put, List.setIfInBounds_toArray, List.set_cons_zero, List.set_cons_succ, i64_w, i32_w]
                                        rfl
                                      refine one_ (i := 3) (N := some 121) #[true, true, true, true, true, true, true, false, false] rfl rfl (one_of HT_.out (by kernel_rfl)) (by decide) (fun K hK => ?_)
                                      refine goes_ Try.func11 (by kernel_rfl) rfl #[.pointer (some ⟨g183, 0, none⟩), .string ((rd_T34 l2 x74_3).f1)] (by rfl) rfl rfl (by (try simp only [List.map_toArray, List.map_cons, List.map_nil]); first | done | rfl | (simp only [List.length_drop, List.length_take]; rfl)) ?_
                                      with_reducible refine (ping_Health_Got.calls k3 g183 x184000_3 x184001_3 x184002_3 x184003_3 x184004_3 x184005_3 ((rd_T34 l2 x74_3).f1) true t218 t219 t220 t221 t222 t223 w _ ?side1 ?side2 A57.out).mono ?_
                                      (case side1 => repeat (first | (with_reducible first | exact HI183.out | apply IsS42.alloc | apply IsS42.drewN | apply IsS42.drew | apply IsS42.set_0 | apply IsS42.set_1 | apply IsS42.set_2 | apply IsS42.set_3 | apply IsS42.set_4 | apply IsS42.set_5 | refine IsS42.far ?_ NB183_184.out _ | refine IsS42.far ?_ NB183_186.out _) | exact HI183.out))
                                      (case side2 => repeat (first | (with_reducible first | exact HB.out | apply below_alloc | apply pw_below_drewN | apply below_drew1 | refine below_set ?_ (IsS42.ge HI183.out) | refine below_set ?_ GE184.out | refine below_set ?_ GE186.out) | exact HB.out))
                                      rintro e w67 ⟨rfl, hi, hb, hk⟩
                                      refine ⟨_, rfl, ?_⟩
                                      have n0_ := Aside0.mk (KeepBut.blk hk (g' := gb184) (o := .cells #[.int .i64 x185000_3, .int .i64 x185001_3, .int .i64 x185002_3, .int .i64 x185003_3, .int .i64 x185004_3, .bool x185005_3] 32 (0, 0)) (by (with_reducible repeat (first | refine blk_drewN ?_ _ | refine blk_drew ?_ | refine blk_alloc ?_ _)); exact BK184.out) NB184_183.out (by simp))
                                      have n1_ := Aside0.mk (KeepBut.blk hk (g' := gb186) (o := .cells #[.int .i64 ((rd_T34 l2 x74_3).f0), .string ((rd_T34 l2 x74_3).f1)] 34 (0, 0)) (by (with_reducible repeat (first | refine blk_drewN ?_ _ | refine blk_drew ?_ | refine blk_alloc ?_ _)); exact BK186.out) NB186_183.out (by simp))
                                      have n2_ := Aside0.mk (hb)
                                      have n3_ := Aside0.mk (hi)
                                      clear BK184
                                      clear BK186
                                      clear HB
                                      clear HI183
                                      have BK184 := n0_
                                      have BK186 := n1_
                                      have HB := n2_
                                      have HI183 := n3_
                                      clear n0_ n1_ n2_ n3_
                                      (try clear hb)
                                      (try clear hb2)
                                      (try clear hk)
                                      (try clear hi)
                                      refine hK.out _ _ ⟨(blk_cell BK186.out 0).trans rfl, (blk_cell BK186.out 1).trans rfl⟩ (fun hHeld => ?_)
                                      clear hK K
                                      refine norm_ (a' := ?_) ?_ ?_
                                      rotate_left
                                      · show Act.put _ (some 121) _ = _
                                        simp only [Act.put, List.setIfInBounds_toArray, List.set_cons_zero, List.set_cons_succ, i64_w, i32_w]
                                        rfl
                                      refine one_ (i := 7) (N := some 125) #[true, true, true, true, true, true, true, true, false] rfl rfl (one_of HT_.out (by kernel_rfl)) (by decide) (fun K hK => ?_)
                                      refine goes_ Try.func15 (by kernel_rfl) rfl #[.pointer (some ⟨gb184, 0, none⟩), .string ((rd_T34 l2 x74_3).f1)] (by rfl) rfl rfl (by (try simp only [List.map_toArray, List.map_cons, List.map_nil]); first | done | rfl | (simp only [List.length_drop, List.length_take]; rfl)) ?_
                                      with_reducible refine (bywashref1_Health_Got.calls k3 gb184 x185000_3 x185001_3 x185002_3 x185003_3 x185004_3 x185005_3 ((rd_T34 l2 x74_3).f1) false t225 t226 t227 t228 t229 t230 w _ ?side1 ?side2 A58.out).mono ?_
                                      (case side1 => exact ⟨by (with_reducible repeat (first | refine blk_drewN ?_ _ | refine blk_drew ?_ | refine blk_alloc ?_ _)); exact BK184.out, GE184.out⟩)
                                      (case side2 => repeat (first | (with_reducible first | exact HB.out | apply below_alloc | apply pw_below_drewN | apply below_drew1 | refine below_set ?_ (IsS42.ge HI183.out) | refine below_set ?_ GE184.out | refine below_set ?_ GE186.out) | exact HB.out))
                                      rintro e w68 ⟨rfl, hi, hb, hk⟩
                                      refine ⟨_, rfl, ?_⟩
                                      have n0_ := Aside0.mk (hi.1)
                                      have n1_ := Aside0.mk (show IsS42 w _ g183 t218 t219 t220 t221 t222 t223 from ⟨KeepBut.blk hk (show IsS42 w _ g183 t218 t219 t220 t221 t222 t223 from by repeat (first | (with_reducible first | exact HI183.out | apply IsS42.alloc | apply IsS42.drewN | apply IsS42.drew | apply IsS42.set_0 | apply IsS42.set_1 | apply IsS42.set_2 | apply IsS42.set_3 | apply IsS42.set_4 | apply IsS42.set_5 | refine IsS42.far ?_ NB183_184.out _ | refine IsS42.far ?_ NB183_186.out _) | exact HI183.out)).1 NB183_184.out (by simp), (HI183.out).2⟩)
                                      have n2_ := Aside0.mk (KeepBut.blk hk (g' := gb186) (o := .cells #[.int .i64 ((rd_T34 l2 x74_3).f0), .string ((rd_T34 l2 x74_3).f1)] 34 (0, 0)) (by (with_reducible repeat (first | refine blk_drewN ?_ _ | refine blk_drew ?_ | refine blk_alloc ?_ _)); exact BK186.out) NB186_184.out (by simp))
                                      have n3_ := Aside0.mk (hb)
                                      clear BK184
                                      clear HI183
                                      clear BK186
                                      clear HB
                                      have BK184 := n0_
                                      have HI183 := n1_
                                      have BK186 := n2_
                                      have HB := n3_
                                      clear n0_ n1_ n2_ n3_
                                      (try clear hb)
                                      (try clear hb2)
                                      (try clear hk)
                                      (try clear hi)
                                      refine hK.out _ _ ⟨(blk_cell BK186.out 0).trans rfl, (blk_cell BK186.out 1).trans rfl⟩ (fun hHeld => ?_)
                                      clear hK K
                                      refine norm_ (a' := ?_) ?_ ?_
                                      rotate_left
                                      · show Act.put _ (some 125) _ = _
                                        simp only [Act.put, List.setIfInBounds_toArray, List.set_cons_zero, List.set_cons_succ, i64_w, i32_w]
                                        rfl
                                      refine pure_ (i := 8) (N := some 126) (v := ?_) (a' := ?_) #[true, true, true, true, true, true, true, true, true] rfl rfl (any_of HT_.out (by kernel_rfl)) (fun _ _ _ h => h) (Or.inl ⟨by rfl, ?_⟩) ?_ ?_
                                      rotate_left
                                      · intro w'
                                        go_simp
                                        with_reducible rfl
                                      rotate_left
                                      · simp only [Act.put, List.setIfInBounds_toArray, List.set_cons_zero, List.set_cons_succ, i64_w, i32_w]
                                        rfl
                                      refine done_ (done_of HT_.out (by kernel_rfl)) ?_
                                      try go_wp2
                                      go_ret
                                      exact ⟨by first | rfl | (simp [errW_none, errW_some] <;> rfl) | (simp [*, errW_none, errW_some] <;> rfl), by repeat (first | (with_reducible first | exact HB.out | apply below_alloc | apply pw_below_drewN | apply below_drew1 | refine below_set ?_ (IsS42.ge HI183.out) | refine below_set ?_ GE184.out | refine below_set ?_ GE186.out) | exact HB.out)⟩
                                  · replace c59 := Bool.eq_false_iff.mpr c59
                                    subst c59
                                    have H1 : (if t224 = true then (some false) else (bywashlaw17_PingPlays.j4 k3 x12_3 l2 (l2.length : Int) x74_3 t218 t219 t220 t221 t222 t223 t225 t226 t227 t228 t229 t230)) = some r := by rw [if_neg (show ¬ (false = true) by decide)] at H; exact H
                                    clear H
                                    have H := H1
                                    clear H1
                                    by_cases c69 : t224 = true
                                    · subst c69
                                      have H1 : (some false) = some r := by rw [if_pos rfl] at H; exact H
                                      clear H
                                      have H := H1
                                      clear H1
                                      obtain rfl := Option.some.inj H
                                      try go_wp2
                                      have n0_ : Aside0 (((w26.setCell ⟨gb186, 0, none⟩ (.int .i64 ((rd_T34 l2 x74_3).f0))).setCell ⟨gb186, 1, none⟩ (.string ((rd_T34 l2 x74_3).f1))).heap[gb184]? = some (.cells #[.int .i64 x185000_3, .int .i64 x185001_3, .int .i64 x185002_3, .int .i64 x185003_3, .int .i64 x185004_3, .bool x185005_3] 32 (0, 0))) := ⟨by (with_reducible repeat (first | refine blk_drewN ?_ _ | refine blk_drew ?_ | refine blk_alloc ?_ _)); refine blk_far ?_ NB184_186.out _; (with_reducible repeat (first | refine blk_drewN ?_ _ | refine blk_drew ?_ | refine blk_alloc ?_ _)); refine blk_far ?_ NB184_186.out _; (with_reducible repeat (first | refine blk_drewN ?_ _ | refine blk_drew ?_ | refine blk_alloc ?_ _)); exact BK184.out⟩
                                      have n1_ : Aside0 (((w26.setCell ⟨gb186, 0, none⟩ (.int .i64 ((rd_T34 l2 x74_3).f0))).setCell ⟨gb186, 1, none⟩ (.string ((rd_T34 l2 x74_3).f1))).heap[gb186]? = some (.cells #[.int .i64 ((rd_T34 l2 x74_3).f0), .string ((rd_T34 l2 x74_3).f1)] 34 (0, 0))) := ⟨by (with_reducible repeat (first | refine blk_drewN ?_ _ | refine blk_drew ?_ | refine blk_alloc ?_ _)); refine blk_put (cs := #[.int .i64 ((rd_T34 l2 x74_3).f0), .string (⟨#[]⟩ : ByteArray)]) ?_ 1 _ rfl; (with_reducible repeat (first | refine blk_drewN ?_ _ | refine blk_drew ?_ | refine blk_alloc ?_ _)); refine blk_put (cs := #[.int .i64 0, .string (⟨#[]⟩ : ByteArray)]) ?_ 0 _ rfl; (with_reducible repeat (first | refine blk_drewN ?_ _ | refine blk_drew ?_ | refine blk_alloc ?_ _)); exact BK186.out⟩
                                      have n2_ : Aside0 (IsS42 w ((w26.setCell ⟨gb186, 0, none⟩ (.int .i64 ((rd_T34 l2 x74_3).f0))).setCell ⟨gb186, 1, none⟩ (.string ((rd_T34 l2 x74_3).f1))) g183 x184000_3 x184001_3 x184002_3 x184003_3 x184004_3 x184005_3) := ⟨by repeat (first | (with_reducible first | exact HI183.out | apply IsS42.alloc | apply IsS42.drewN | apply IsS42.drew | apply IsS42.set_0 | apply IsS42.set_1 | apply IsS42.set_2 | apply IsS42.set_3 | apply IsS42.set_4 | apply IsS42.set_5 | refine IsS42.far ?_ NB183_184.out _ | refine IsS42.far ?_ NB183_186.out _) | exact HI183.out)⟩
                                      have n3_ : Aside0 (Below w.heap.size w ((w26.setCell ⟨gb186, 0, none⟩ (.int .i64 ((rd_T34 l2 x74_3).f0))).setCell ⟨gb186, 1, none⟩ (.string ((rd_T34 l2 x74_3).f1)))) := ⟨by repeat (first | (with_reducible first | exact HB.out | apply below_alloc | apply pw_below_drewN | apply below_drew1 | refine below_set ?_ (IsS42.ge HI183.out) | refine below_set ?_ GE184.out | refine below_set ?_ GE186.out) | exact HB.out)⟩
                                      (try clear BK184)
                                      (try clear BK186)
                                      (try clear HI183)
                                      (try clear HB)
                                      generalize ((w26.setCell ⟨gb186, 0, none⟩ (.int .i64 ((rd_T34 l2 x74_3).f0))).setCell ⟨gb186, 1, none⟩ (.string ((rd_T34 l2 x74_3).f1))) = w70 at n0_ n1_ n2_ n3_ ⊢
                                      have BK184 := n0_
                                      have BK186 := n1_
                                      have HI183 := n2_
                                      have HB := n3_
                                      clear n0_ n1_ n2_ n3_
                                      have n0_ := Aside0.mk (blk_drew BK184.out)
                                      have n1_ := Aside0.mk (blk_drew BK186.out)
                                      have n2_ := Aside0.mk (IsS42.drew HI183.out)
                                      have n3_ := Aside0.mk (below_drew1 HB.out)
                                      clear BK184
                                      clear BK186
                                      clear HI183
                                      clear HB
                                      have BK184 := n0_
                                      have BK186 := n1_
                                      have HI183 := n2_
                                      have HB := n3_
                                      clear n0_ n1_ n2_ n3_
                                      refine start_ (n := 9) (S := fun w' => w'.cell? ⟨gb186, 0, none⟩ = some (.int .i64 ((rd_T34 l2 x74_3).f0)) ∧ w'.cell? ⟨gb186, 1, none⟩ = some (.string ((rd_T34 l2 x74_3).f1))) (ds := []) #[false, false, false, false, false, false, false, false, false] (by kernel_rfl) rfl rfl ⟨(blk_cell BK186.out 0).trans rfl, (blk_cell BK186.out 1).trans rfl⟩ (fun hHeld => ?_); refine with_tabW bywashlaw17_PingPlays.tab29 bywashlaw17_PingPlays.bits29 (fun HT_ HW_ => ?_)
                                      generalize w70.drew = w71 at BK184 BK186 HI183 HB hHeld ⊢
                                      refine pure_ (i := 0) (N := some 118) (v := ?_) (a' := ?_) #[true, false, false, false, false, false, false, false, false] rfl rfl (any_of HT_.out (by kernel_rfl)) (fun _ _ _ h => h) (Or.inl ⟨by rfl, ?_⟩) ?_ ?_
                                      rotate_left
                                      · intro w'
                                        go_simp
                                        with_reducible rfl
                                      rotate_left
                                      · simp only [Act.put, List.setIfInBounds_toArray, List.set_cons_zero, List.set_cons_succ, i64_w, i32_w]
                                        rfl
                                      refine pure_ (i := 1) (N := some 119) (v := ?_) (a' := ?_) #[true, true, false, false, false, false, false, false, false] rfl rfl (any_of HT_.out (by kernel_rfl)) (fun _ _ _ h => h) (Or.inl ⟨by rfl, ?_⟩) ?_ ?_
                                      rotate_left
                                      · intro w'
                                        go_simp
                                        with_reducible rfl
                                      rotate_left
                                      · simp only [Act.put, List.setIfInBounds_toArray, List.set_cons_zero, List.set_cons_succ, i64_w, i32_w]
                                        rfl
                                      refine pure_ (i := 4) (N := some 122) (v := ?_) (a' := ?_) #[true, true, false, false, true, false, false, false, false] rfl rfl (any_of HT_.out (by kernel_rfl)) (fun _ _ _ h => h) (Or.inl ⟨by rfl, ?_⟩) ?_ ?_
                                      rotate_left
                                      · intro w'
                                        go_simp
                                        with_reducible rfl
                                      rotate_left
                                      · simp only [Act.put, List.setIfInBounds_toArray, List.set_cons_zero, List.set_cons_succ, i64_w, i32_w]
                                        rfl
                                      refine pure_ (i := 5) (N := some 123) (v := ?_) (a' := ?_) #[true, true, false, false, true, true, false, false, false] rfl rfl (any_of HT_.out (by kernel_rfl)) (fun _ _ _ h => h) (Or.inl ⟨by rfl, ?_⟩) ?_ ?_
                                      rotate_left
                                      · intro w'
                                        go_simp
                                        with_reducible rfl
                                      rotate_left
                                      · simp only [Act.put, List.setIfInBounds_toArray, List.set_cons_zero, List.set_cons_succ, i64_w, i32_w]
                                        rfl
                                      refine take_ (i := 2) (N := some 120) (v := ?_) (a' := ?_) #[true, true, true, false, true, true, false, false, false] rfl rfl (take_ofW HT_.out HW_.out (by kernel_rfl)) (fun _ _ _ h => h) (Or.inl ⟨by rfl, ?_⟩) hHeld ?_ ?_
                                      rotate_left
                                      · rintro w' ⟨s0, s1⟩
                                        go_simp
                                        with_reducible rfl
                                      rotate_left
                                      · simp only [Act.put, List.setIfInBounds_toArray, List.set_cons_zero, List.set_cons_succ, i64_w, i32_w]
                                        rfl
                                      refine take_ (i := 6) (N := some 124) (v := ?_) (a' := ?_) #[true, true, true, false, true, true, true, false, false] rfl rfl (take_ofW HT_.out HW_.out (by kernel_rfl)) (fun _ _ _ h => h) (Or.inl ⟨by rfl, ?_⟩) hHeld ?_ ?_
                                      rotate_left
                                      · rintro w' ⟨s0, s1⟩
                                        go_simp
                                        with_reducible rfl
                                      rotate_left
                                      · simp only [Act.put, List.setIfInBounds_toArray, List.set_cons_zero, List.set_cons_succ, i64_w, i32_w]
                                        rfl
                                      refine one_ (i := 3) (N := some 121) #[true, true, true, true, true, true, true, false, false] rfl rfl (one_of HT_.out (by kernel_rfl)) (by decide) (fun K hK => ?_)
                                      refine goes_ Try.func11 (by kernel_rfl) rfl #[.pointer (some ⟨g183, 0, none⟩), .string ((rd_T34 l2 x74_3).f1)] (by rfl) rfl rfl (by (try simp only [List.map_toArray, List.map_cons, List.map_nil]); first | done | rfl | (simp only [List.length_drop, List.length_take]; rfl)) ?_
                                      with_reducible refine (ping_Health_Got.calls k3 g183 x184000_3 x184001_3 x184002_3 x184003_3 x184004_3 x184005_3 ((rd_T34 l2 x74_3).f1) false t218 t219 t220 t221 t222 t223 w _ ?side1 ?side2 A57.out).mono ?_
                                      (case side1 => repeat (first | (with_reducible first | exact HI183.out | apply IsS42.alloc | apply IsS42.drewN | apply IsS42.drew | apply IsS42.set_0 | apply IsS42.set_1 | apply IsS42.set_2 | apply IsS42.set_3 | apply IsS42.set_4 | apply IsS42.set_5 | refine IsS42.far ?_ NB183_184.out _ | refine IsS42.far ?_ NB183_186.out _) | exact HI183.out))
                                      (case side2 => repeat (first | (with_reducible first | exact HB.out | apply below_alloc | apply pw_below_drewN | apply below_drew1 | refine below_set ?_ (IsS42.ge HI183.out) | refine below_set ?_ GE184.out | refine below_set ?_ GE186.out) | exact HB.out))
                                      rintro e w72 ⟨rfl, hi, hb, hk⟩
                                      refine ⟨_, rfl, ?_⟩
                                      have n0_ := Aside0.mk (KeepBut.blk hk (g' := gb184) (o := .cells #[.int .i64 x185000_3, .int .i64 x185001_3, .int .i64 x185002_3, .int .i64 x185003_3, .int .i64 x185004_3, .bool x185005_3] 32 (0, 0)) (by (with_reducible repeat (first | refine blk_drewN ?_ _ | refine blk_drew ?_ | refine blk_alloc ?_ _)); exact BK184.out) NB184_183.out (by simp))
                                      have n1_ := Aside0.mk (KeepBut.blk hk (g' := gb186) (o := .cells #[.int .i64 ((rd_T34 l2 x74_3).f0), .string ((rd_T34 l2 x74_3).f1)] 34 (0, 0)) (by (with_reducible repeat (first | refine blk_drewN ?_ _ | refine blk_drew ?_ | refine blk_alloc ?_ _)); exact BK186.out) NB186_183.out (by simp))
                                      have n2_ := Aside0.mk (hb)
                                      have n3_ := Aside0.mk (hi)
                                      clear BK184
                                      clear BK186
                                      clear HB
                                      clear HI183
                                      have BK184 := n0_
                                      have BK186 := n1_
                                      have HB := n2_
                                      have HI183 := n3_
                                      clear n0_ n1_ n2_ n3_
                                      (try clear hb)
                                      (try clear hb2)
                                      (try clear hk)
                                      (try clear hi)
                                      refine hK.out _ _ ⟨(blk_cell BK186.out 0).trans rfl, (blk_cell BK186.out 1).trans rfl⟩ (fun hHeld => ?_)
                                      clear hK K
                                      refine norm_ (a' := ?_) ?_ ?_
                                      rotate_left
                                      · show Act.put _ (some 121) _ = _
                                        simp only [Act.put, List.setIfInBounds_toArray, List.set_cons_zero, List.set_cons_succ, i64_w, i32_w]
                                        rfl
                                      refine one_ (i := 7) (N := some 125) #[true, true, true, true, true, true, true, true, false] rfl rfl (one_of HT_.out (by kernel_rfl)) (by decide) (fun K hK => ?_)
                                      refine goes_ Try.func15 (by kernel_rfl) rfl #[.pointer (some ⟨gb184, 0, none⟩), .string ((rd_T34 l2 x74_3).f1)] (by rfl) rfl rfl (by (try simp only [List.map_toArray, List.map_cons, List.map_nil]); first | done | rfl | (simp only [List.length_drop, List.length_take]; rfl)) ?_
                                      with_reducible refine (bywashref1_Health_Got.calls k3 gb184 x185000_3 x185001_3 x185002_3 x185003_3 x185004_3 x185005_3 ((rd_T34 l2 x74_3).f1) true t225 t226 t227 t228 t229 t230 w _ ?side1 ?side2 A58.out).mono ?_
                                      (case side1 => exact ⟨by (with_reducible repeat (first | refine blk_drewN ?_ _ | refine blk_drew ?_ | refine blk_alloc ?_ _)); exact BK184.out, GE184.out⟩)
                                      (case side2 => repeat (first | (with_reducible first | exact HB.out | apply below_alloc | apply pw_below_drewN | apply below_drew1 | refine below_set ?_ (IsS42.ge HI183.out) | refine below_set ?_ GE184.out | refine below_set ?_ GE186.out) | exact HB.out))
                                      rintro e w73 ⟨rfl, hi, hb, hk⟩
                                      refine ⟨_, rfl, ?_⟩
                                      have n0_ := Aside0.mk (hi.1)
                                      have n1_ := Aside0.mk (show IsS42 w _ g183 t218 t219 t220 t221 t222 t223 from ⟨KeepBut.blk hk (show IsS42 w _ g183 t218 t219 t220 t221 t222 t223 from by repeat (first | (with_reducible first | exact HI183.out | apply IsS42.alloc | apply IsS42.drewN | apply IsS42.drew | apply IsS42.set_0 | apply IsS42.set_1 | apply IsS42.set_2 | apply IsS42.set_3 | apply IsS42.set_4 | apply IsS42.set_5 | refine IsS42.far ?_ NB183_184.out _ | refine IsS42.far ?_ NB183_186.out _) | exact HI183.out)).1 NB183_184.out (by simp), (HI183.out).2⟩)
                                      have n2_ := Aside0.mk (KeepBut.blk hk (g' := gb186) (o := .cells #[.int .i64 ((rd_T34 l2 x74_3).f0), .string ((rd_T34 l2 x74_3).f1)] 34 (0, 0)) (by (with_reducible repeat (first | refine blk_drewN ?_ _ | refine blk_drew ?_ | refine blk_alloc ?_ _)); exact BK186.out) NB186_184.out (by simp))
                                      have n3_ := Aside0.mk (hb)
                                      clear BK184
                                      clear HI183
                                      clear BK186
                                      clear HB
                                      have BK184 := n0_
                                      have HI183 := n1_
                                      have BK186 := n2_
                                      have HB := n3_
                                      clear n0_ n1_ n2_ n3_
                                      (try clear hb)
                                      (try clear hb2)
                                      (try clear hk)
                                      (try clear hi)
                                      refine hK.out _ _ ⟨(blk_cell BK186.out 0).trans rfl, (blk_cell BK186.out 1).trans rfl⟩ (fun hHeld => ?_)
                                      clear hK K
                                      refine norm_ (a' := ?_) ?_ ?_
                                      rotate_left
                                      · show Act.put _ (some 125) _ = _
                                        simp only [Act.put, List.setIfInBounds_toArray, List.set_cons_zero, List.set_cons_succ, i64_w, i32_w]
                                        rfl
                                      refine pure_ (i := 8) (N := some 126) (v := ?_) (a' := ?_) #[true, true, true, true, true, true, true, true, true] rfl rfl (any_of HT_.out (by kernel_rfl)) (fun _ _ _ h => h) (Or.inl ⟨by rfl, ?_⟩) ?_ ?_
                                      rotate_left
                                      · intro w'
                                        go_simp
                                        with_reducible rfl
                                      rotate_left
                                      · simp only [Act.put, List.setIfInBounds_toArray, List.set_cons_zero, List.set_cons_succ, i64_w, i32_w]
                                        rfl
                                      refine done_ (done_of HT_.out (by kernel_rfl)) ?_
                                      try go_wp2
                                      go_ret
                                      exact ⟨by first | rfl | (simp [errW_none, errW_some] <;> rfl) | (simp [*, errW_none, errW_some] <;> rfl), by repeat (first | (with_reducible first | exact HB.out | apply below_alloc | apply pw_below_drewN | apply below_drew1 | refine below_set ?_ (IsS42.ge HI183.out) | refine below_set ?_ GE184.out | refine below_set ?_ GE186.out) | exact HB.out)⟩
                                    · replace c69 := Bool.eq_false_iff.mpr c69
                                      subst c69
                                      have H1 : (bywashlaw17_PingPlays.j4 k3 x12_3 l2 (l2.length : Int) x74_3 t218 t219 t220 t221 t222 t223 t225 t226 t227 t228 t229 t230) = some r := by rw [if_neg (show ¬ (false = true) by decide)] at H; exact H
                                      clear H
                                      have H := H1
                                      clear H1
                                      have H' := Aside0.mk H
                                      clear H
                                      try go_wp2
                                      have n0_ : Aside0 (((w26.setCell ⟨gb186, 0, none⟩ (.int .i64 ((rd_T34 l2 x74_3).f0))).setCell ⟨gb186, 1, none⟩ (.string ((rd_T34 l2 x74_3).f1))).heap[gb184]? = some (.cells #[.int .i64 x185000_3, .int .i64 x185001_3, .int .i64 x185002_3, .int .i64 x185003_3, .int .i64 x185004_3, .bool x185005_3] 32 (0, 0))) := ⟨by (with_reducible repeat (first | refine blk_drewN ?_ _ | refine blk_drew ?_ | refine blk_alloc ?_ _)); refine blk_far ?_ NB184_186.out _; (with_reducible repeat (first | refine blk_drewN ?_ _ | refine blk_drew ?_ | refine blk_alloc ?_ _)); refine blk_far ?_ NB184_186.out _; (with_reducible repeat (first | refine blk_drewN ?_ _ | refine blk_drew ?_ | refine blk_alloc ?_ _)); exact BK184.out⟩
                                      have n1_ : Aside0 (((w26.setCell ⟨gb186, 0, none⟩ (.int .i64 ((rd_T34 l2 x74_3).f0))).setCell ⟨gb186, 1, none⟩ (.string ((rd_T34 l2 x74_3).f1))).heap[gb186]? = some (.cells #[.int .i64 ((rd_T34 l2 x74_3).f0), .string ((rd_T34 l2 x74_3).f1)] 34 (0, 0))) := ⟨by (with_reducible repeat (first | refine blk_drewN ?_ _ | refine blk_drew ?_ | refine blk_alloc ?_ _)); refine blk_put (cs := #[.int .i64 ((rd_T34 l2 x74_3).f0), .string (⟨#[]⟩ : ByteArray)]) ?_ 1 _ rfl; (with_reducible repeat (first | refine blk_drewN ?_ _ | refine blk_drew ?_ | refine blk_alloc ?_ _)); refine blk_put (cs := #[.int .i64 0, .string (⟨#[]⟩ : ByteArray)]) ?_ 0 _ rfl; (with_reducible repeat (first | refine blk_drewN ?_ _ | refine blk_drew ?_ | refine blk_alloc ?_ _)); exact BK186.out⟩
                                      have n2_ : Aside0 (IsS42 w ((w26.setCell ⟨gb186, 0, none⟩ (.int .i64 ((rd_T34 l2 x74_3).f0))).setCell ⟨gb186, 1, none⟩ (.string ((rd_T34 l2 x74_3).f1))) g183 x184000_3 x184001_3 x184002_3 x184003_3 x184004_3 x184005_3) := ⟨by repeat (first | (with_reducible first | exact HI183.out | apply IsS42.alloc | apply IsS42.drewN | apply IsS42.drew | apply IsS42.set_0 | apply IsS42.set_1 | apply IsS42.set_2 | apply IsS42.set_3 | apply IsS42.set_4 | apply IsS42.set_5 | refine IsS42.far ?_ NB183_184.out _ | refine IsS42.far ?_ NB183_186.out _) | exact HI183.out)⟩
                                      have n3_ : Aside0 (Below w.heap.size w ((w26.setCell ⟨gb186, 0, none⟩ (.int .i64 ((rd_T34 l2 x74_3).f0))).setCell ⟨gb186, 1, none⟩ (.string ((rd_T34 l2 x74_3).f1)))) := ⟨by repeat (first | (with_reducible first | exact HB.out | apply below_alloc | apply pw_below_drewN | apply below_drew1 | refine below_set ?_ (IsS42.ge HI183.out) | refine below_set ?_ GE184.out | refine below_set ?_ GE186.out) | exact HB.out)⟩
                                      (try clear BK184)
                                      (try clear BK186)
                                      (try clear HI183)
                                      (try clear HB)
                                      generalize ((w26.setCell ⟨gb186, 0, none⟩ (.int .i64 ((rd_T34 l2 x74_3).f0))).setCell ⟨gb186, 1, none⟩ (.string ((rd_T34 l2 x74_3).f1))) = w74 at n0_ n1_ n2_ n3_ ⊢
                                      have BK184 := n0_
                                      have BK186 := n1_
                                      have HI183 := n2_
                                      have HB := n3_
                                      clear n0_ n1_ n2_ n3_
                                      have n0_ := Aside0.mk (blk_drew BK184.out)
                                      have n1_ := Aside0.mk (blk_drew BK186.out)
                                      have n2_ := Aside0.mk (IsS42.drew HI183.out)
                                      have n3_ := Aside0.mk (below_drew1 HB.out)
                                      clear BK184
                                      clear BK186
                                      clear HI183
                                      clear HB
                                      have BK184 := n0_
                                      have BK186 := n1_
                                      have HI183 := n2_
                                      have HB := n3_
                                      clear n0_ n1_ n2_ n3_
                                      refine start_ (n := 9) (S := fun w' => w'.cell? ⟨gb186, 0, none⟩ = some (.int .i64 ((rd_T34 l2 x74_3).f0)) ∧ w'.cell? ⟨gb186, 1, none⟩ = some (.string ((rd_T34 l2 x74_3).f1))) (ds := []) #[false, false, false, false, false, false, false, false, false] (by kernel_rfl) rfl rfl ⟨(blk_cell BK186.out 0).trans rfl, (blk_cell BK186.out 1).trans rfl⟩ (fun hHeld => ?_); refine with_tabW bywashlaw17_PingPlays.tab29 bywashlaw17_PingPlays.bits29 (fun HT_ HW_ => ?_)
                                      generalize w74.drew = w75 at BK184 BK186 HI183 HB hHeld ⊢
                                      refine pure_ (i := 0) (N := some 118) (v := ?_) (a' := ?_) #[true, false, false, false, false, false, false, false, false] rfl rfl (any_of HT_.out (by kernel_rfl)) (fun _ _ _ h => h) (Or.inl ⟨by rfl, ?_⟩) ?_ ?_
                                      rotate_left
                                      · intro w'
                                        go_simp
                                        with_reducible rfl
                                      rotate_left
                                      · simp only [Act.put, List.setIfInBounds_toArray, List.set_cons_zero, List.set_cons_succ, i64_w, i32_w]
                                        rfl
                                      refine pure_ (i := 1) (N := some 119) (v := ?_) (a' := ?_) #[true, true, false, false, false, false, false, false, false] rfl rfl (any_of HT_.out (by kernel_rfl)) (fun _ _ _ h => h) (Or.inl ⟨by rfl, ?_⟩) ?_ ?_
                                      rotate_left
                                      · intro w'
                                        go_simp
                                        with_reducible rfl
                                      rotate_left
                                      · simp only [Act.put, List.setIfInBounds_toArray, List.set_cons_zero, List.set_cons_succ, i64_w, i32_w]
                                        rfl
                                      refine pure_ (i := 4) (N := some 122) (v := ?_) (a' := ?_) #[true, true, false, false, true, false, false, false, false] rfl rfl (any_of HT_.out (by kernel_rfl)) (fun _ _ _ h => h) (Or.inl ⟨by rfl, ?_⟩) ?_ ?_
                                      rotate_left
                                      · intro w'
                                        go_simp
                                        with_reducible rfl
                                      rotate_left
                                      · simp only [Act.put, List.setIfInBounds_toArray, List.set_cons_zero, List.set_cons_succ, i64_w, i32_w]
                                        rfl
                                      refine pure_ (i := 5) (N := some 123) (v := ?_) (a' := ?_) #[true, true, false, false, true, true, false, false, false] rfl rfl (any_of HT_.out (by kernel_rfl)) (fun _ _ _ h => h) (Or.inl ⟨by rfl, ?_⟩) ?_ ?_
                                      rotate_left
                                      · intro w'
                                        go_simp
                                        with_reducible rfl
                                      rotate_left
                                      · simp only [Act.put, List.setIfInBounds_toArray, List.set_cons_zero, List.set_cons_succ, i64_w, i32_w]
                                        rfl
                                      refine take_ (i := 2) (N := some 120) (v := ?_) (a' := ?_) #[true, true, true, false, true, true, false, false, false] rfl rfl (take_ofW HT_.out HW_.out (by kernel_rfl)) (fun _ _ _ h => h) (Or.inl ⟨by rfl, ?_⟩) hHeld ?_ ?_
                                      rotate_left
                                      · rintro w' ⟨s0, s1⟩
                                        go_simp
                                        with_reducible rfl
                                      rotate_left
                                      · simp only [Act.put, List.setIfInBounds_toArray, List.set_cons_zero, List.set_cons_succ, i64_w, i32_w]
                                        rfl
                                      refine take_ (i := 6) (N := some 124) (v := ?_) (a' := ?_) #[true, true, true, false, true, true, true, false, false] rfl rfl (take_ofW HT_.out HW_.out (by kernel_rfl)) (fun _ _ _ h => h) (Or.inl ⟨by rfl, ?_⟩) hHeld ?_ ?_
                                      rotate_left
                                      · rintro w' ⟨s0, s1⟩
                                        go_simp
                                        with_reducible rfl
                                      rotate_left
                                      · simp only [Act.put, List.setIfInBounds_toArray, List.set_cons_zero, List.set_cons_succ, i64_w, i32_w]
                                        rfl
                                      refine one_ (i := 3) (N := some 121) #[true, true, true, true, true, true, true, false, false] rfl rfl (one_of HT_.out (by kernel_rfl)) (by decide) (fun K hK => ?_)
                                      refine goes_ Try.func11 (by kernel_rfl) rfl #[.pointer (some ⟨g183, 0, none⟩), .string ((rd_T34 l2 x74_3).f1)] (by rfl) rfl rfl (by (try simp only [List.map_toArray, List.map_cons, List.map_nil]); first | done | rfl | (simp only [List.length_drop, List.length_take]; rfl)) ?_
                                      with_reducible refine (ping_Health_Got.calls k3 g183 x184000_3 x184001_3 x184002_3 x184003_3 x184004_3 x184005_3 ((rd_T34 l2 x74_3).f1) false t218 t219 t220 t221 t222 t223 w _ ?side1 ?side2 A57.out).mono ?_
                                      (case side1 => repeat (first | (with_reducible first | exact HI183.out | apply IsS42.alloc | apply IsS42.drewN | apply IsS42.drew | apply IsS42.set_0 | apply IsS42.set_1 | apply IsS42.set_2 | apply IsS42.set_3 | apply IsS42.set_4 | apply IsS42.set_5 | refine IsS42.far ?_ NB183_184.out _ | refine IsS42.far ?_ NB183_186.out _) | exact HI183.out))
                                      (case side2 => repeat (first | (with_reducible first | exact HB.out | apply below_alloc | apply pw_below_drewN | apply below_drew1 | refine below_set ?_ (IsS42.ge HI183.out) | refine below_set ?_ GE184.out | refine below_set ?_ GE186.out) | exact HB.out))
                                      rintro e w76 ⟨rfl, hi, hb, hk⟩
                                      refine ⟨_, rfl, ?_⟩
                                      have n0_ := Aside0.mk (KeepBut.blk hk (g' := gb184) (o := .cells #[.int .i64 x185000_3, .int .i64 x185001_3, .int .i64 x185002_3, .int .i64 x185003_3, .int .i64 x185004_3, .bool x185005_3] 32 (0, 0)) (by (with_reducible repeat (first | refine blk_drewN ?_ _ | refine blk_drew ?_ | refine blk_alloc ?_ _)); exact BK184.out) NB184_183.out (by simp))
                                      have n1_ := Aside0.mk (KeepBut.blk hk (g' := gb186) (o := .cells #[.int .i64 ((rd_T34 l2 x74_3).f0), .string ((rd_T34 l2 x74_3).f1)] 34 (0, 0)) (by (with_reducible repeat (first | refine blk_drewN ?_ _ | refine blk_drew ?_ | refine blk_alloc ?_ _)); exact BK186.out) NB186_183.out (by simp))
                                      have n2_ := Aside0.mk (hb)
                                      have n3_ := Aside0.mk (hi)
                                      clear BK184
                                      clear BK186
                                      clear HB
                                      clear HI183
                                      have BK184 := n0_
                                      have BK186 := n1_
                                      have HB := n2_
                                      have HI183 := n3_
                                      clear n0_ n1_ n2_ n3_
                                      (try clear hb)
                                      (try clear hb2)
                                      (try clear hk)
                                      (try clear hi)
                                      refine hK.out _ _ ⟨(blk_cell BK186.out 0).trans rfl, (blk_cell BK186.out 1).trans rfl⟩ (fun hHeld => ?_)
                                      clear hK K
                                      refine norm_ (a' := ?_) ?_ ?_
                                      rotate_left
                                      · show Act.put _ (some 121) _ = _
                                        simp only [Act.put, List.setIfInBounds_toArray, List.set_cons_zero, List.set_cons_succ, i64_w, i32_w]
                                        rfl
                                      refine one_ (i := 7) (N := some 125) #[true, true, true, true, true, true, true, true, false] rfl rfl (one_of HT_.out (by kernel_rfl)) (by decide) (fun K hK => ?_)
                                      refine goes_ Try.func15 (by kernel_rfl) rfl #[.pointer (some ⟨gb184, 0, none⟩), .string ((rd_T34 l2 x74_3).f1)] (by rfl) rfl rfl (by (try simp only [List.map_toArray, List.map_cons, List.map_nil]); first | done | rfl | (simp only [List.length_drop, List.length_take]; rfl)) ?_
                                      with_reducible refine (bywashref1_Health_Got.calls k3 gb184 x185000_3 x185001_3 x185002_3 x185003_3 x185004_3 x185005_3 ((rd_T34 l2 x74_3).f1) false t225 t226 t227 t228 t229 t230 w _ ?side1 ?side2 A58.out).mono ?_
                                      (case side1 => exact ⟨by (with_reducible repeat (first | refine blk_drewN ?_ _ | refine blk_drew ?_ | refine blk_alloc ?_ _)); exact BK184.out, GE184.out⟩)
                                      (case side2 => repeat (first | (with_reducible first | exact HB.out | apply below_alloc | apply pw_below_drewN | apply below_drew1 | refine below_set ?_ (IsS42.ge HI183.out) | refine below_set ?_ GE184.out | refine below_set ?_ GE186.out) | exact HB.out))
                                      rintro e w77 ⟨rfl, hi, hb, hk⟩
                                      refine ⟨_, rfl, ?_⟩
                                      have n0_ := Aside0.mk (hi.1)
                                      have n1_ := Aside0.mk (show IsS42 w _ g183 t218 t219 t220 t221 t222 t223 from ⟨KeepBut.blk hk (show IsS42 w _ g183 t218 t219 t220 t221 t222 t223 from by repeat (first | (with_reducible first | exact HI183.out | apply IsS42.alloc | apply IsS42.drewN | apply IsS42.drew | apply IsS42.set_0 | apply IsS42.set_1 | apply IsS42.set_2 | apply IsS42.set_3 | apply IsS42.set_4 | apply IsS42.set_5 | refine IsS42.far ?_ NB183_184.out _ | refine IsS42.far ?_ NB183_186.out _) | exact HI183.out)).1 NB183_184.out (by simp), (HI183.out).2⟩)
                                      have n2_ := Aside0.mk (KeepBut.blk hk (g' := gb186) (o := .cells #[.int .i64 ((rd_T34 l2 x74_3).f0), .string ((rd_T34 l2 x74_3).f1)] 34 (0, 0)) (by (with_reducible repeat (first | refine blk_drewN ?_ _ | refine blk_drew ?_ | refine blk_alloc ?_ _)); exact BK186.out) NB186_184.out (by simp))
                                      have n3_ := Aside0.mk (hb)
                                      clear BK184
                                      clear HI183
                                      clear BK186
                                      clear HB
                                      have BK184 := n0_
                                      have HI183 := n1_
                                      have BK186 := n2_
                                      have HB := n3_
                                      clear n0_ n1_ n2_ n3_
                                      (try clear hb)
                                      (try clear hb2)
                                      (try clear hk)
                                      (try clear hi)
                                      refine hK.out _ _ ⟨(blk_cell BK186.out 0).trans rfl, (blk_cell BK186.out 1).trans rfl⟩ (fun hHeld => ?_)
                                      clear hK K
                                      refine norm_ (a' := ?_) ?_ ?_
                                      rotate_left
                                      · show Act.put _ (some 125) _ = _
                                        simp only [Act.put, List.setIfInBounds_toArray, List.set_cons_zero, List.set_cons_succ, i64_w, i32_w]
                                        rfl
                                      refine pure_ (i := 8) (N := some 126) (v := ?_) (a' := ?_) #[true, true, true, true, true, true, true, true, true] rfl rfl (any_of HT_.out (by kernel_rfl)) (fun _ _ _ h => h) (Or.inl ⟨by rfl, ?_⟩) ?_ ?_
                                      rotate_left
                                      · intro w'
                                        go_simp
                                        with_reducible rfl
                                      rotate_left
                                      · simp only [Act.put, List.setIfInBounds_toArray, List.set_cons_zero, List.set_cons_succ, i64_w, i32_w]
                                        rfl
                                      refine done_ (done_of HT_.out (by kernel_rfl)) ?_
                                      try go_wp2
                                      go_meet
                                      case rel => exact ⟨_, (x12_3), (t218), (t219), (t220), (t221), (t222), (t223), (t225), (t226), (t227), (t228), (t229), (t230), (by first | rfl | (simp; done) | (simp [*]; done)), H', ⟨by have := HJ3.out; have := HJ11.out; have := HK3.out; first | omega | exact Nat.le_refl _⟩, ⟨by (with_reducible repeat (first | refine blk_drewN ?_ _ | refine blk_drew ?_ | refine blk_alloc ?_ _)); exact BK184.out⟩, ⟨by (with_reducible repeat (first | refine blk_drewN ?_ _ | refine blk_drew ?_ | refine blk_alloc ?_ _)); exact BK186.out⟩, ⟨by repeat (first | (with_reducible first | exact HI183.out | apply IsS42.alloc | apply IsS42.drewN | apply IsS42.drew | apply IsS42.set_0 | apply IsS42.set_1 | apply IsS42.set_2 | apply IsS42.set_3 | apply IsS42.set_4 | apply IsS42.set_5 | refine IsS42.far ?_ NB183_184.out _ | refine IsS42.far ?_ NB183_186.out _) | exact HI183.out)⟩, ⟨by repeat (first | (with_reducible first | exact HB.out | apply below_alloc | apply pw_below_drewN | apply below_drew1 | refine below_set ?_ (IsS42.ge HI183.out) | refine below_set ?_ GE184.out | refine below_set ?_ GE186.out) | exact HB.out)⟩⟩
                                · rw [if_neg c56] at H
                                  have c56b0 : (((rd_T34 l2 x74_3).f0) == 3) = false := beq_eq_false_iff_ne.mpr c56
                                  have c56b1 : (((rd_T34 l2 x74_3).f0) != 3) = true := bne_iff_ne.mpr c56
                                  have H' := Aside0.mk H
                                  clear H
                                  go_wp2
                                  go_meet
                                  case rel => exact ⟨_, (x12_3), (x184000_3), (x184001_3), (x184002_3), (x184003_3), (x184004_3), (x184005_3), (x185000_3), (x185001_3), (x185002_3), (x185003_3), (x185004_3), (x185005_3), (by first | rfl | (simp; done) | (simp [*]; done)), H', ⟨by have := HJ3.out; have := HJ11.out; have := HK3.out; first | omega | exact Nat.le_refl _⟩, ⟨by (with_reducible repeat (first | refine blk_drewN ?_ _ | refine blk_drew ?_ | refine blk_alloc ?_ _)); refine blk_far ?_ NB184_186.out _; (with_reducible repeat (first | refine blk_drewN ?_ _ | refine blk_drew ?_ | refine blk_alloc ?_ _)); refine blk_far ?_ NB184_186.out _; (with_reducible repeat (first | refine blk_drewN ?_ _ | refine blk_drew ?_ | refine blk_alloc ?_ _)); exact BK184.out⟩, ⟨by (with_reducible repeat (first | refine blk_drewN ?_ _ | refine blk_drew ?_ | refine blk_alloc ?_ _)); refine blk_put (cs := #[.int .i64 ((rd_T34 l2 x74_3).f0), .string (⟨#[]⟩ : ByteArray)]) ?_ 1 _ rfl; (with_reducible repeat (first | refine blk_drewN ?_ _ | refine blk_drew ?_ | refine blk_alloc ?_ _)); refine blk_put (cs := #[.int .i64 0, .string (⟨#[]⟩ : ByteArray)]) ?_ 0 _ rfl; (with_reducible repeat (first | refine blk_drewN ?_ _ | refine blk_drew ?_ | refine blk_alloc ?_ _)); exact BK186.out⟩, ⟨by repeat (first | (with_reducible first | exact HI183.out | apply IsS42.alloc | apply IsS42.drewN | apply IsS42.drew | apply IsS42.set_0 | apply IsS42.set_1 | apply IsS42.set_2 | apply IsS42.set_3 | apply IsS42.set_4 | apply IsS42.set_5 | refine IsS42.far ?_ NB183_184.out _ | refine IsS42.far ?_ NB183_186.out _) | exact HI183.out)⟩, ⟨by repeat (first | (with_reducible first | exact HB.out | apply below_alloc | apply pw_below_drewN | apply below_drew1 | refine below_set ?_ (IsS42.ge HI183.out) | refine below_set ?_ GE184.out | refine below_set ?_ GE186.out) | exact HB.out)⟩⟩
                          case rest =>
                            clear HC25
                            try clear c1
                            try clear p2
                            try clear c5
                            try clear c6
                            try clear c11
                            try clear c15
                            try clear c56
                            try clear c56b0
                            try clear c56b1
                            try clear c59
                            try clear c60
                            try clear c69
                            obtain ⟨kq, x12_24, x184000_24, x184001_24, x184002_24, x184003_24, x184004_24, x184005_24, x185000_24, x185001_24, x185002_24, x185003_24, x185004_24, x185005_24, rfl, HA, HJ24, BK184, BK186, HI183, HB⟩ := hcut
                            cases kq with
                            | zero => exact absurd HA.out (by simp [bywashlaw17_PingPlays.j4])
                            | succ kj24 =>
                              have H := HA.out
                              clear HA
                              simp only [bywashlaw17_PingPlays.j4] at H
                              have HC78 := Aside0.mk H
                              clear H
                              go_upto_region 31 with (fail)
                              go_cut [143] (fun v143 wc => ∃ (kq : Nat) (x143_77 : Bool) (x184000_77 : Int) (x184001_77 : Int) (x184002_77 : Int) (x184003_77 : Int) (x184004_77 : Bool) (x184005_77 : Bool), v143 = .bool x143_77 ∧ Aside0 (bywashlaw17_PingPlays.j5 kq x12_24 l2 (l2.length : Int) x74_3 x143_77 x184000_77 x184001_77 x184002_77 x184003_77 x184004_77 x184005_77 x185000_24 x185001_24 x185002_24 x185003_24 x185004_24 x185005_24 = some r) ∧ Aside0 (kq ≤ kj24) ∧ Aside0 (wc.heap[gb184]? = some (.cells #[.int .i64 x185000_24, .int .i64 x185001_24, .int .i64 x185002_24, .int .i64 x185003_24, .int .i64 x185004_24, .bool x185005_24] 32 (0, 0))) ∧ Aside0 (wc.heap[gb186]? = some (.cells #[.int .i64 ((rd_T34 l2 x74_3).f0), .string ((rd_T34 l2 x74_3).f1)] 34 (0, 0))) ∧ Aside0 (IsS42 w wc g183 x184000_77 x184001_77 x184002_77 x184003_77 x184004_77 x184005_77) ∧ Aside0 (Below w.heap.size w wc))
                              case first =>
                                have H := HC78.out
                                clear HC78
                                replace H := Option.bind_eq_some_iff.mp H
                                obtain ⟨⟨t231, t232, t233, t234, t235, t236, t237⟩, A790, H⟩ := H
                                replace H : (if t231 = true then (if x185002_24 > 0 then ((ping_Health_Sent.f t232 t233 t234 t235 t236 t237).bind fun bt238 => (bywashlaw17_PingPlays.j5 kj24 x12_24 l2 (l2.length : Int) x74_3 (bt238.1 != x185004_24) bt238.2.1 bt238.2.2.1 bt238.2.2.2.1 bt238.2.2.2.2.1 bt238.2.2.2.2.2.1 bt238.2.2.2.2.2.2 x185000_24 x185001_24 x185002_24 x185003_24 x185004_24 x185005_24)) else (bywashlaw17_PingPlays.j5 kj24 x12_24 l2 (l2.length : Int) x74_3 true t232 t233 t234 t235 t236 t237 x185000_24 x185001_24 x185002_24 x185003_24 x185004_24 x185005_24)) else (if x185002_24 > 0 then (bywashlaw17_PingPlays.j5 kj24 x12_24 l2 (l2.length : Int) x74_3 true t232 t233 t234 t235 t236 t237 x185000_24 x185001_24 x185002_24 x185003_24 x185004_24 x185005_24) else ((ping_Health_Sent.f t232 t233 t234 t235 t236 t237).bind fun bt245 => (bywashlaw17_PingPlays.j5 kj24 x12_24 l2 (l2.length : Int) x74_3 (bt245.1 != x185004_24) bt245.2.1 bt245.2.2.1 bt245.2.2.2.1 bt245.2.2.2.2.1 bt245.2.2.2.2.2.1 bt245.2.2.2.2.2.2 x185000_24 x185001_24 x185002_24 x185003_24 x185004_24 x185005_24)))) = some r := H
                                have A79 := Aside0.mk A790
                                clear A790
                                by_cases c80 : t231 = true
                                · subst c80
                                  have H1 : (if x185002_24 > 0 then ((ping_Health_Sent.f t232 t233 t234 t235 t236 t237).bind fun bt238 => (bywashlaw17_PingPlays.j5 kj24 x12_24 l2 (l2.length : Int) x74_3 (bt238.1 != x185004_24) bt238.2.1 bt238.2.2.1 bt238.2.2.2.1 bt238.2.2.2.2.1 bt238.2.2.2.2.2.1 bt238.2.2.2.2.2.2 x185000_24 x185001_24 x185002_24 x185003_24 x185004_24 x185005_24)) else (bywashlaw17_PingPlays.j5 kj24 x12_24 l2 (l2.length : Int) x74_3 true t232 t233 t234 t235 t236 t237 x185000_24 x185001_24 x185002_24 x185003_24 x185004_24 x185005_24)) = some r := by rw [if_pos rfl] at H; exact H
                                  clear H
                                  have H := H1
                                  clear H1
                                  by_cases c81 : x185002_24 > 0
                                  · rw [if_pos c81] at H
                                    have c81b0 : decide (0 < x185002_24) = true := decide_eq_true c81
                                    clear c81
                                    (first | rw [c81b0] | (simp only [i64_w, i32_w]; rw [c81b0]) | skip)
                                    replace H := Option.bind_eq_some_iff.mp H
                                    obtain ⟨⟨t238, t239, t240, t241, t242, t243, t244⟩, A820, H⟩ := H
                                    replace H : (bywashlaw17_PingPlays.j5 kj24 x12_24 l2 (l2.length : Int) x74_3 (t238 != x185004_24) t239 t240 t241 t242 t243 t244 x185000_24 x185001_24 x185002_24 x185003_24 x185004_24 x185005_24) = some r := H
                                    have A82 := Aside0.mk A820
                                    clear A820
                                    have H' := Aside0.mk H
                                    clear H
                                    try go_wp2
                                    have n0_ := Aside0.mk (blk_drew BK184.out)
                                    have n1_ := Aside0.mk (blk_drew BK186.out)
                                    have n2_ := Aside0.mk (IsS42.drew HI183.out)
                                    have n3_ := Aside0.mk (below_drew1 HB.out)
                                    clear BK184
                                    clear BK186
                                    clear HI183
                                    clear HB
                                    have BK184 := n0_
                                    have BK186 := n1_
                                    have HI183 := n2_
                                    have HB := n3_
                                    clear n0_ n1_ n2_ n3_
                                    refine start_ (n := 17) (S := fun w' => w'.cell? ⟨gb184, 0, none⟩ = some (.int .i64 x185000_24) ∧ w'.cell? ⟨gb184, 1, none⟩ = some (.int .i64 x185001_24) ∧ w'.cell? ⟨gb184, 2, none⟩ = some (.int .i64 x185002_24) ∧ w'.cell? ⟨gb184, 3, none⟩ = some (.int .i64 x185003_24) ∧ w'.cell? ⟨gb184, 4, none⟩ = some (.int .i64 x185004_24) ∧ w'.cell? ⟨gb184, 5, none⟩ = some (.bool x185005_24)) (ds := []) #[false, false, false, false, false, false, false, false, false, false, false, false, false, false, false, false, false] (by kernel_rfl) rfl rfl ⟨(blk_cell BK184.out 0).trans rfl, (blk_cell BK184.out 1).trans rfl, (blk_cell BK184.out 2).trans rfl, (blk_cell BK184.out 3).trans rfl, (blk_cell BK184.out 4).trans rfl, (blk_cell BK184.out 5).trans rfl⟩ (fun hHeld => ?_); refine with_tabW bywashlaw17_PingPlays.tab31 bywashlaw17_PingPlays.bits31 (fun HT_ HW_ => ?_)
                                    generalize wc.drew = w83 at BK184 BK186 HI183 HB hHeld ⊢
                                    refine pure_ (i := 0) (N := some 127) (v := ?_) (a' := ?_) #[true, false, false, false, false, false, false, false, false, false, false, false, false, false, false, false, false] rfl rfl (any_of HT_.out (by kernel_rfl)) (fun _ _ _ h => h) (Or.inl ⟨by rfl, ?_⟩) ?_ ?_
                                    rotate_left
                                    · intro w'
                                      go_simp
                                      with_reducible rfl
                                    rotate_left
                                    · simp only [Act.put, List.setIfInBounds_toArray, List.set_cons_zero, List.set_cons_succ, i64_w, i32_w]
                                      rfl
                                    refine pure_ (i := 2) (N := some 129) (v := ?_) (a' := ?_) #[true, false, true, false, false, false, false, false, false, false, false, false, false, false, false, false, false] rfl rfl (any_of HT_.out (by kernel_rfl)) (fun _ _ _ h => h) (Or.inl ⟨by rfl, ?_⟩) ?_ ?_
                                    rotate_left
                                    · intro w'
                                      go_simp
                                      with_reducible rfl
                                    rotate_left
                                    · simp only [Act.put, List.setIfInBounds_toArray, List.set_cons_zero, List.set_cons_succ, i64_w, i32_w]
                                      rfl
                                    refine pure_ (i := 3) (N := some 130) (v := ?_) (a' := ?_) #[true, false, true, true, false, false, false, false, false, false, false, false, false, false, false, false, false] rfl rfl (any_of HT_.out (by kernel_rfl)) (fun _ _ _ h => h) (Or.inl ⟨by rfl, ?_⟩) ?_ ?_
                                    rotate_left
                                    · intro w'
                                      go_simp
                                      with_reducible rfl
                                    rotate_left
                                    · simp only [Act.put, List.setIfInBounds_toArray, List.set_cons_zero, List.set_cons_succ, i64_w, i32_w]
                                      rfl
                                    refine pure_ (i := 4) (N := some 131) (v := ?_) (a' := ?_) #[true, false, true, true, true, false, false, false, false, false, false, false, false, false, false, false, false] rfl rfl (any_of HT_.out (by kernel_rfl)) (fun _ _ _ h => h) (Or.inl ⟨by rfl, ?_⟩) ?_ ?_
                                    rotate_left
                                    · intro w'
                                      go_simp
                                      with_reducible rfl
                                    rotate_left
                                    · simp only [Act.put, List.setIfInBounds_toArray, List.set_cons_zero, List.set_cons_succ, i64_w, i32_w]
                                      rfl
                                    refine take_ (i := 5) (N := some 132) (v := ?_) (a' := ?_) #[true, false, true, true, true, true, false, false, false, false, false, false, false, false, false, false, false] rfl rfl (take_ofW HT_.out HW_.out (by kernel_rfl)) (fun _ _ _ h => h) (Or.inl ⟨by rfl, ?_⟩) hHeld ?_ ?_
                                    rotate_left
                                    · rintro w' ⟨s0, s1, s2, s3, s4, s5⟩
                                      go_simp
                                      with_reducible rfl
                                    rotate_left
                                    · simp only [Act.put, List.setIfInBounds_toArray, List.set_cons_zero, List.set_cons_succ, i64_w, i32_w]
                                      rfl
                                    refine pure_ (i := 6) (N := some 133) (v := ?_) (a' := ?_) #[true, false, true, true, true, true, true, false, false, false, false, false, false, false, false, false, false] rfl rfl (any_of HT_.out (by kernel_rfl)) (fun _ _ _ h => h) (Or.inl ⟨by rfl, ?_⟩) ?_ ?_
                                    rotate_left
                                    · intro w'
                                      go_simp
                                      with_reducible rfl
                                    rotate_left
                                    · simp only [Act.put, List.setIfInBounds_toArray, List.set_cons_zero, List.set_cons_succ, i64_w, i32_w]
                                      rfl
                                    refine one_ (i := 1) (N := some 128) #[true, true, true, true, true, true, true, false, false, false, false, false, false, false, false, false, false] rfl rfl (one_of HT_.out (by kernel_rfl)) (by decide) (fun K hK => ?_)
                                    refine goes_ Try.func12 (by kernel_rfl) rfl #[.pointer (some ⟨g183, 0, none⟩)] (by rfl) rfl rfl (by (try simp only [List.map_toArray, List.map_cons, List.map_nil]); first | done | rfl | (simp only [List.length_drop, List.length_take]; rfl)) ?_
                                    with_reducible refine (ping_Health_Waits.calls g183 x184000_24 x184001_24 x184002_24 x184003_24 x184004_24 x184005_24 true t232 t233 t234 t235 t236 t237 w _ ?side1 ?side2 A79.out).mono ?_
                                    (case side1 => repeat (first | (with_reducible first | exact HI183.out | apply IsS42.alloc | apply IsS42.drewN | apply IsS42.drew | apply IsS42.set_0 | apply IsS42.set_1 | apply IsS42.set_2 | apply IsS42.set_3 | apply IsS42.set_4 | apply IsS42.set_5 | refine IsS42.far ?_ NB183_184.out _ | refine IsS42.far ?_ NB183_186.out _) | exact HI183.out))
                                    (case side2 => repeat (first | (with_reducible first | exact HB.out | apply below_alloc | apply pw_below_drewN | apply below_drew1 | refine below_set ?_ (IsS42.ge HI183.out) | refine below_set ?_ GE184.out | refine below_set ?_ GE186.out) | exact HB.out))
                                    rintro e w84 ⟨rfl, hi, hb, hk⟩
                                    refine ⟨_, rfl, ?_⟩
                                    have n0_ := Aside0.mk (KeepBut.blk hk (g' := gb184) (o := .cells #[.int .i64 x185000_24, .int .i64 x185001_24, .int .i64 x185002_24, .int .i64 x185003_24, .int .i64 x185004_24, .bool x185005_24] 32 (0, 0)) (by (with_reducible repeat (first | refine blk_drewN ?_ _ | refine blk_drew ?_ | refine blk_alloc ?_ _)); exact BK184.out) NB184_183.out (by simp))
                                    have n1_ := Aside0.mk (KeepBut.blk hk (g' := gb186) (o := .cells #[.int .i64 ((rd_T34 l2 x74_3).f0), .string ((rd_T34 l2 x74_3).f1)] 34 (0, 0)) (by (with_reducible repeat (first | refine blk_drewN ?_ _ | refine blk_drew ?_ | refine blk_alloc ?_ _)); exact BK186.out) NB186_183.out (by simp))
                                    have n2_ := Aside0.mk (hb)
                                    have n3_ := Aside0.mk (hi)
                                    clear BK184
                                    clear BK186
                                    clear HB
                                    clear HI183
                                    have BK184 := n0_
                                    have BK186 := n1_
                                    have HB := n2_
                                    have HI183 := n3_
                                    clear n0_ n1_ n2_ n3_
                                    (try clear hb)
                                    (try clear hb2)
                                    (try clear hk)
                                    (try clear hi)
                                    refine hK.out _ _ ⟨(blk_cell BK184.out 0).trans rfl, (blk_cell BK184.out 1).trans rfl, (blk_cell BK184.out 2).trans rfl, (blk_cell BK184.out 3).trans rfl, (blk_cell BK184.out 4).trans rfl, (blk_cell BK184.out 5).trans rfl⟩ (fun hHeld => ?_)
                                    clear hK K
                                    refine norm_ (a' := ?_) ?_ ?_
                                    rotate_left
                                    · show Act.put _ (some 128) _ = _
                                      simp only [Act.put, List.setIfInBounds_toArray, List.set_cons_zero, List.set_cons_succ, i64_w, i32_w]
                                      rfl
                                    refine pure_ (i := 7) (N := some 134) (v := ?_) (a' := ?_) #[true, true, true, true, true, true, true, true, false, false, false, false, false, false, false, false, false] rfl rfl (any_of HT_.out (by kernel_rfl)) (fun _ _ _ h => h) (Or.inl ⟨by rfl, ?_⟩) ?_ ?_
                                    rotate_left
                                    · intro w'
                                      go_simp
                                      with_reducible rfl
                                    rotate_left
                                    · simp only [Act.put, List.setIfInBounds_toArray, List.set_cons_zero, List.set_cons_succ, i64_w, i32_w]
                                      rfl
                                    refine pure_ (i := 8) (N := some 135) (v := ?_) (a' := ?_) #[true, true, true, true, true, true, true, true, true, false, false, false, false, false, false, false, false] rfl rfl (any_of HT_.out (by kernel_rfl)) (fun _ _ _ h => h) (Or.inl ⟨by rfl, ?_⟩) ?_ ?_
                                    rotate_left
                                    · intro w'
                                      go_simp
                                      with_reducible rfl
                                    rotate_left
                                    · simp only [Act.put, List.setIfInBounds_toArray, List.set_cons_zero, List.set_cons_succ, i64_w, i32_w]
                                      rfl
                                    refine pure_ (i := 9) (N := some 136) (v := ?_) (a' := ?_) #[true, true, true, true, true, true, true, true, true, true, false, false, false, false, false, false, false] rfl rfl (any_of HT_.out (by kernel_rfl)) (fun _ _ _ h => h) (Or.inl ⟨by rfl, ?_⟩) ?_ ?_
                                    rotate_left
                                    · intro w'
                                      go_simp
                                      with_reducible rfl
                                    rotate_left
                                    · simp only [Act.put, List.setIfInBounds_toArray, List.set_cons_zero, List.set_cons_succ, i64_w, i32_w]
                                      rfl
                                    refine pure_ (i := 11) (N := some 138) (v := ?_) (a' := ?_) #[true, true, true, true, true, true, true, true, true, true, false, true, false, false, false, false, false] rfl rfl (any_of HT_.out (by kernel_rfl)) (fun _ _ _ h => h) (Or.inl ⟨by rfl, ?_⟩) ?_ ?_
                                    rotate_left
                                    · intro w'
                                      go_simp
                                      with_reducible rfl
                                    rotate_left
                                    · simp only [Act.put, List.setIfInBounds_toArray, List.set_cons_zero, List.set_cons_succ, i64_w, i32_w]
                                      rfl
                                    refine pure_ (i := 12) (N := some 139) (v := ?_) (a' := ?_) #[true, true, true, true, true, true, true, true, true, true, false, true, true, false, false, false, false] rfl rfl (any_of HT_.out (by kernel_rfl)) (fun _ _ _ h => h) (Or.inl ⟨by rfl, ?_⟩) ?_ ?_
                                    rotate_left
                                    · intro w'
                                      go_simp
                                      with_reducible rfl
                                    rotate_left
                                    · simp only [Act.put, List.setIfInBounds_toArray, List.set_cons_zero, List.set_cons_succ, i64_w, i32_w]
                                      rfl
                                    refine pure_ (i := 13) (N := some 140) (v := ?_) (a' := ?_) #[true, true, true, true, true, true, true, true, true, true, false, true, true, true, false, false, false] rfl rfl (any_of HT_.out (by kernel_rfl)) (fun _ _ _ h => h) (Or.inl ⟨by rfl, ?_⟩) ?_ ?_
                                    rotate_left
                                    · intro w'
                                      go_simp
                                      with_reducible rfl
                                    rotate_left
                                    · simp only [Act.put, List.setIfInBounds_toArray, List.set_cons_zero, List.set_cons_succ, i64_w, i32_w]
                                      rfl
                                    refine take_ (i := 14) (N := some 141) (v := ?_) (a' := ?_) #[true, true, true, true, true, true, true, true, true, true, false, true, true, true, true, false, false] rfl rfl (take_ofW HT_.out HW_.out (by kernel_rfl)) (fun _ _ _ h => h) (Or.inl ⟨by rfl, ?_⟩) hHeld ?_ ?_
                                    rotate_left
                                    · rintro w' ⟨s0, s1, s2, s3, s4, s5⟩
                                      go_simp
                                      with_reducible rfl
                                    rotate_left
                                    · simp only [Act.put, List.setIfInBounds_toArray, List.set_cons_zero, List.set_cons_succ, i64_w, i32_w]
                                      rfl
                                    refine one_ (i := 10) (N := some 137) #[true, true, true, true, true, true, true, true, true, true, true, true, true, true, true, false, false] rfl rfl (one_of HT_.out (by kernel_rfl)) (by decide) (fun K hK => ?_)
                                    refine goes_ Try.func13 (by kernel_rfl) rfl #[.pointer (some ⟨g183, 0, none⟩)] (by rfl) rfl rfl (by (try simp only [List.map_toArray, List.map_cons, List.map_nil]); first | done | rfl | (simp only [List.length_drop, List.length_take]; rfl)) ?_
                                    with_reducible refine (ping_Health_Sent.calls g183 t232 t233 t234 t235 t236 t237 t238 t239 t240 t241 t242 t243 t244 w _ ?side1 ?side2 A82.out).mono ?_
                                    (case side1 => repeat (first | (with_reducible first | exact HI183.out | apply IsS42.alloc | apply IsS42.drewN | apply IsS42.drew | apply IsS42.set_0 | apply IsS42.set_1 | apply IsS42.set_2 | apply IsS42.set_3 | apply IsS42.set_4 | apply IsS42.set_5 | refine IsS42.far ?_ NB183_184.out _ | refine IsS42.far ?_ NB183_186.out _) | exact HI183.out))
                                    (case side2 => repeat (first | (with_reducible first | exact HB.out | apply below_alloc | apply pw_below_drewN | apply below_drew1 | refine below_set ?_ (IsS42.ge HI183.out) | refine below_set ?_ GE184.out | refine below_set ?_ GE186.out) | exact HB.out))
                                    rintro e w85 ⟨rfl, hi, hb, hk⟩
                                    refine ⟨_, rfl, ?_⟩
                                    have n0_ := Aside0.mk (KeepBut.blk hk (g' := gb184) (o := .cells #[.int .i64 x185000_24, .int .i64 x185001_24, .int .i64 x185002_24, .int .i64 x185003_24, .int .i64 x185004_24, .bool x185005_24] 32 (0, 0)) (by (with_reducible repeat (first | refine blk_drewN ?_ _ | refine blk_drew ?_ | refine blk_alloc ?_ _)); exact BK184.out) NB184_183.out (by simp))
                                    have n1_ := Aside0.mk (KeepBut.blk hk (g' := gb186) (o := .cells #[.int .i64 ((rd_T34 l2 x74_3).f0), .string ((rd_T34 l2 x74_3).f1)] 34 (0, 0)) (by (with_reducible repeat (first | refine blk_drewN ?_ _ | refine blk_drew ?_ | refine blk_alloc ?_ _)); exact BK186.out) NB186_183.out (by simp))
                                    have n2_ := Aside0.mk (hb)
                                    have n3_ := Aside0.mk (hi)
                                    clear BK184
                                    clear BK186
                                    clear HB
                                    clear HI183
                                    have BK184 := n0_
                                    have BK186 := n1_
                                    have HB := n2_
                                    have HI183 := n3_
                                    clear n0_ n1_ n2_ n3_
                                    (try clear hb)
                                    (try clear hb2)
                                    (try clear hk)
                                    (try clear hi)
                                    refine hK.out _ _ ⟨(blk_cell BK184.out 0).trans rfl, (blk_cell BK184.out 1).trans rfl, (blk_cell BK184.out 2).trans rfl, (blk_cell BK184.out 3).trans rfl, (blk_cell BK184.out 4).trans rfl, (blk_cell BK184.out 5).trans rfl⟩ (fun hHeld => ?_)
                                    clear hK K
                                    refine norm_ (a' := ?_) ?_ ?_
                                    rotate_left
                                    · show Act.put _ (some 137) _ = _
                                      simp only [Act.put, List.setIfInBounds_toArray, List.set_cons_zero, List.set_cons_succ, i64_w, i32_w]
                                      rfl
                                    refine pure_ (i := 15) (N := some 142) (v := ?_) (a' := ?_) #[true, true, true, true, true, true, true, true, true, true, true, true, true, true, true, true, false] rfl rfl (any_of HT_.out (by kernel_rfl)) (fun _ _ _ h => h) (Or.inl ⟨by rfl, ?_⟩) ?_ ?_
                                    rotate_left
                                    · intro w'
                                      go_simp
                                      with_reducible rfl
                                    rotate_left
                                    · simp only [Act.put, List.setIfInBounds_toArray, List.set_cons_zero, List.set_cons_succ, i64_w, i32_w]
                                      rfl
                                    refine pure_ (i := 16) (N := some 143) (v := ?_) (a' := ?_) #[true, true, true, true, true, true, true, true, true, true, true, true, true, true, true, true, true] rfl rfl (any_of HT_.out (by kernel_rfl)) (fun _ _ _ h => h) (Or.inl ⟨by rfl, ?_⟩) ?_ ?_
                                    rotate_left
                                    · intro w'
                                      go_simp
                                      with_reducible rfl
                                    rotate_left
                                    · simp only [Act.put, List.setIfInBounds_toArray, List.set_cons_zero, List.set_cons_succ, i64_w, i32_w]
                                      rfl
                                    refine done_ (done_of HT_.out (by kernel_rfl)) ?_
                                    try go_wp2
                                    go_meet
                                    case rel => exact ⟨_, ((t238 != x185004_24)), (t239), (t240), (t241), (t242), (t243), (t244), (by first | rfl | (simp; done) | (simp [*]; done)), H', ⟨by have := HJ3.out; have := HJ11.out; have := HK3.out; have := HJ24.out; first | omega | exact Nat.le_refl _⟩, ⟨by (with_reducible repeat (first | refine blk_drewN ?_ _ | refine blk_drew ?_ | refine blk_alloc ?_ _)); exact BK184.out⟩, ⟨by (with_reducible repeat (first | refine blk_drewN ?_ _ | refine blk_drew ?_ | refine blk_alloc ?_ _)); exact BK186.out⟩, ⟨by repeat (first | (with_reducible first | exact HI183.out | apply IsS42.alloc | apply IsS42.drewN | apply IsS42.drew | apply IsS42.set_0 | apply IsS42.set_1 | apply IsS42.set_2 | apply IsS42.set_3 | apply IsS42.set_4 | apply IsS42.set_5 | refine IsS42.far ?_ NB183_184.out _ | refine IsS42.far ?_ NB183_186.out _) | exact HI183.out)⟩, ⟨by repeat (first | (with_reducible first | exact HB.out | apply below_alloc | apply pw_below_drewN | apply below_drew1 | refine below_set ?_ (IsS42.ge HI183.out) | refine below_set ?_ GE184.out | refine below_set ?_ GE186.out) | exact HB.out)⟩⟩
                                  · rw [if_neg c81] at H
                                    have c81b0 : decide (0 < x185002_24) = false := decide_eq_false c81
                                    clear c81
                                    (first | rw [c81b0] | (simp only [i64_w, i32_w]; rw [c81b0]) | skip)
                                    have H' := Aside0.mk H
                                    clear H
                                    try go_wp2
                                    have n0_ := Aside0.mk (blk_drew BK184.out)
                                    have n1_ := Aside0.mk (blk_drew BK186.out)
                                    have n2_ := Aside0.mk (IsS42.drew HI183.out)
                                    have n3_ := Aside0.mk (below_drew1 HB.out)
                                    clear BK184
                                    clear BK186
                                    clear HI183
                                    clear HB
                                    have BK184 := n0_
                                    have BK186 := n1_
                                    have HI183 := n2_
                                    have HB := n3_
                                    clear n0_ n1_ n2_ n3_
                                    refine start_ (n := 17) (S := fun w' => w'.cell? ⟨gb184, 0, none⟩ = some (.int .i64 x185000_24) ∧ w'.cell? ⟨gb184, 1, none⟩ = some (.int .i64 x185001_24) ∧ w'.cell? ⟨gb184, 2, none⟩ = some (.int .i64 x185002_24) ∧ w'.cell? ⟨gb184, 3, none⟩ = some (.int .i64 x185003_24) ∧ w'.cell? ⟨gb184, 4, none⟩ = some (.int .i64 x185004_24) ∧ w'.cell? ⟨gb184, 5, none⟩ = some (.bool x185005_24)) (ds := []) #[false, false, false, false, false, false, false, false, false, false, false, false, false, false, false, false, false] (by kernel_rfl) rfl rfl ⟨(blk_cell BK184.out 0).trans rfl, (blk_cell BK184.out 1).trans rfl, (blk_cell BK184.out 2).trans rfl, (blk_cell BK184.out 3).trans rfl, (blk_cell BK184.out 4).trans rfl, (blk_cell BK184.out 5).trans rfl⟩ (fun hHeld => ?_); refine with_tabW bywashlaw17_PingPlays.tab31 bywashlaw17_PingPlays.bits31 (fun HT_ HW_ => ?_)
                                    generalize wc.drew = w86 at BK184 BK186 HI183 HB hHeld ⊢
                                    refine pure_ (i := 0) (N := some 127) (v := ?_) (a' := ?_) #[true, false, false, false, false, false, false, false, false, false, false, false, false, false, false, false, false] rfl rfl (any_of HT_.out (by kernel_rfl)) (fun _ _ _ h => h) (Or.inl ⟨by rfl, ?_⟩) ?_ ?_
                                    rotate_left
                                    · intro w'
                                      go_simp
                                      with_reducible rfl
                                    rotate_left
                                    · simp only [Act.put, List.setIfInBounds_toArray, List.set_cons_zero, List.set_cons_succ, i64_w, i32_w]
                                      rfl
                                    refine pure_ (i := 2) (N := some 129) (v := ?_) (a' := ?_) #[true, false, true, false, false, false, false, false, false, false, false, false, false, false, false, false, false] rfl rfl (any_of HT_.out (by kernel_rfl)) (fun _ _ _ h => h) (Or.inl ⟨by rfl, ?_⟩) ?_ ?_
                                    rotate_left
                                    · intro w'
                                      go_simp
                                      with_reducible rfl
                                    rotate_left
                                    · simp only [Act.put, List.setIfInBounds_toArray, List.set_cons_zero, List.set_cons_succ, i64_w, i32_w]
                                      rfl
                                    refine pure_ (i := 3) (N := some 130) (v := ?_) (a' := ?_) #[true, false, true, true, false, false, false, false, false, false, false, false, false, false, false, false, false] rfl rfl (any_of HT_.out (by kernel_rfl)) (fun _ _ _ h => h) (Or.inl ⟨by rfl, ?_⟩) ?_ ?_
                                    rotate_left
                                    · intro w'
                                      go_simp
                                      with_reducible rfl
                                    rotate_left
                                    · simp only [Act.put, List.setIfInBounds_toArray, List.set_cons_zero, List.set_cons_succ, i64_w, i32_w]
                                      rfl
                                    refine pure_ (i := 4) (N := some 131) (v := ?_) (a' := ?_) #[true, false, true, true, true, false, false, false, false, false, false, false, false, false, false, false, false] rfl rfl (any_of HT_.out (by kernel_rfl)) (fun _ _ _ h => h) (Or.inl ⟨by rfl, ?_⟩) ?_ ?_
                                    rotate_left
                                    · intro w'
                                      go_simp
                                      with_reducible rfl
                                    rotate_left
                                    · simp only [Act.put, List.setIfInBounds_toArray, List.set_cons_zero, List.set_cons_succ, i64_w, i32_w]
                                      rfl
                                    refine take_ (i := 5) (N := some 132) (v := ?_) (a' := ?_) #[true, false, true, true, true, true, false, false, false, false, false, false, false, false, false, false, false] rfl rfl (take_ofW HT_.out HW_.out (by kernel_rfl)) (fun _ _ _ h => h) (Or.inl ⟨by rfl, ?_⟩) hHeld ?_ ?_
                                    rotate_left
                                    · rintro w' ⟨s0, s1, s2, s3, s4, s5⟩
                                      go_simp
                                      with_reducible rfl
                                    rotate_left
                                    · simp only [Act.put, List.setIfInBounds_toArray, List.set_cons_zero, List.set_cons_succ, i64_w, i32_w]
                                      rfl
                                    refine pure_ (i := 6) (N := some 133) (v := ?_) (a' := ?_) #[true, false, true, true, true, true, true, false, false, false, false, false, false, false, false, false, false] rfl rfl (any_of HT_.out (by kernel_rfl)) (fun _ _ _ h => h) (Or.inl ⟨by rfl, ?_⟩) ?_ ?_
                                    rotate_left
                                    · intro w'
                                      go_simp
                                      with_reducible rfl
                                    rotate_left
                                    · simp only [Act.put, List.setIfInBounds_toArray, List.set_cons_zero, List.set_cons_succ, i64_w, i32_w]
                                      rfl
                                    refine one_ (i := 1) (N := some 128) #[true, true, true, true, true, true, true, false, false, false, false, false, false, false, false, false, false] rfl rfl (one_of HT_.out (by kernel_rfl)) (by decide) (fun K hK => ?_)
                                    refine goes_ Try.func12 (by kernel_rfl) rfl #[.pointer (some ⟨g183, 0, none⟩)] (by rfl) rfl rfl (by (try simp only [List.map_toArray, List.map_cons, List.map_nil]); first | done | rfl | (simp only [List.length_drop, List.length_take]; rfl)) ?_
                                    with_reducible refine (ping_Health_Waits.calls g183 x184000_24 x184001_24 x184002_24 x184003_24 x184004_24 x184005_24 true t232 t233 t234 t235 t236 t237 w _ ?side1 ?side2 A79.out).mono ?_
                                    (case side1 => repeat (first | (with_reducible first | exact HI183.out | apply IsS42.alloc | apply IsS42.drewN | apply IsS42.drew | apply IsS42.set_0 | apply IsS42.set_1 | apply IsS42.set_2 | apply IsS42.set_3 | apply IsS42.set_4 | apply IsS42.set_5 | refine IsS42.far ?_ NB183_184.out _ | refine IsS42.far ?_ NB183_186.out _) | exact HI183.out))
                                    (case side2 => repeat (first | (with_reducible first | exact HB.out | apply below_alloc | apply pw_below_drewN | apply below_drew1 | refine below_set ?_ (IsS42.ge HI183.out) | refine below_set ?_ GE184.out | refine below_set ?_ GE186.out) | exact HB.out))
                                    rintro e w87 ⟨rfl, hi, hb, hk⟩
                                    refine ⟨_, rfl, ?_⟩
                                    have n0_ := Aside0.mk (KeepBut.blk hk (g' := gb184) (o := .cells #[.int .i64 x185000_24, .int .i64 x185001_24, .int .i64 x185002_24, .int .i64 x185003_24, .int .i64 x185004_24, .bool x185005_24] 32 (0, 0)) (by (with_reducible repeat (first | refine blk_drewN ?_ _ | refine blk_drew ?_ | refine blk_alloc ?_ _)); exact BK184.out) NB184_183.out (by simp))
                                    have n1_ := Aside0.mk (KeepBut.blk hk (g' := gb186) (o := .cells #[.int .i64 ((rd_T34 l2 x74_3).f0), .string ((rd_T34 l2 x74_3).f1)] 34 (0, 0)) (by (with_reducible repeat (first | refine blk_drewN ?_ _ | refine blk_drew ?_ | refine blk_alloc ?_ _)); exact BK186.out) NB186_183.out (by simp))
                                    have n2_ := Aside0.mk (hb)
                                    have n3_ := Aside0.mk (hi)
                                    clear BK184
                                    clear BK186
                                    clear HB
                                    clear HI183
                                    have BK184 := n0_
                                    have BK186 := n1_
                                    have HB := n2_
                                    have HI183 := n3_
                                    clear n0_ n1_ n2_ n3_
                                    (try clear hb)
                                    (try clear hb2)
                                    (try clear hk)
                                    (try clear hi)
                                    refine hK.out _ _ ⟨(blk_cell BK184.out 0).trans rfl, (blk_cell BK184.out 1).trans rfl, (blk_cell BK184.out 2).trans rfl, (blk_cell BK184.out 3).trans rfl, (blk_cell BK184.out 4).trans rfl, (blk_cell BK184.out 5).trans rfl⟩ (fun hHeld => ?_)
                                    clear hK K
                                    refine norm_ (a' := ?_) ?_ ?_
                                    rotate_left
                                    · show Act.put _ (some 128) _ = _
                                      simp only [Act.put, List.setIfInBounds_toArray, List.set_cons_zero, List.set_cons_succ, i64_w, i32_w]
                                      rfl
                                    refine pure_ (i := 7) (N := some 134) (v := ?_) (a' := ?_) #[true, true, true, true, true, true, true, true, false, false, false, false, false, false, false, false, false] rfl rfl (any_of HT_.out (by kernel_rfl)) (fun _ _ _ h => h) (Or.inl ⟨by rfl, ?_⟩) ?_ ?_
                                    rotate_left
                                    · intro w'
                                      go_simp
                                      with_reducible rfl
                                    rotate_left
                                    · simp only [Act.put, List.setIfInBounds_toArray, List.set_cons_zero, List.set_cons_succ, i64_w, i32_w]
                                      rfl
                                    refine pure_ (i := 8) (N := some 135) (v := ?_) (a' := ?_) #[true, true, true, true, true, true, true, true, true, false, false, false, false, false, false, false, false] rfl rfl (any_of HT_.out (by kernel_rfl)) (fun _ _ _ h => h) (Or.inl ⟨by rfl, ?_⟩) ?_ ?_
                                    rotate_left
                                    · intro w'
                                      go_simp
                                      with_reducible rfl
                                    rotate_left
                                    · simp only [Act.put, List.setIfInBounds_toArray, List.set_cons_zero, List.set_cons_succ, i64_w, i32_w]
                                      rfl
                                    refine pure_ (i := 9) (N := some 136) (v := undef) (a' := ?_) #[true, true, true, true, true, true, true, true, true, true, false, false, false, false, false, false, false] rfl rfl (any_of HT_.out (by kernel_rfl)) (fun _ _ _ h => h) (Or.inr ⟨by rfl, rfl⟩) ?_ ?_
                                    rotate_left
                                    · simp only [Act.put, List.setIfInBounds_toArray, List.set_cons_zero, List.set_cons_succ, i64_w, i32_w]
                                      rfl
                                    refine pure_ (i := 10) (N := some 137) (v := undef) (a' := ?_) #[true, true, true, true, true, true, true, true, true, true, true, false, false, false, false, false, false] rfl rfl (any_of HT_.out (by kernel_rfl)) (fun _ _ _ h => h) (Or.inr ⟨by rfl, rfl⟩) ?_ ?_
                                    rotate_left
                                    · simp only [Act.put, List.setIfInBounds_toArray, List.set_cons_zero, List.set_cons_succ, i64_w, i32_w]
                                      rfl
                                    refine pure_ (i := 11) (N := some 138) (v := undef) (a' := ?_) #[true, true, true, true, true, true, true, true, true, true, true, true, false, false, false, false, false] rfl rfl (any_of HT_.out (by kernel_rfl)) (fun _ _ _ h => h) (Or.inr ⟨by rfl, rfl⟩) ?_ ?_
                                    rotate_left
                                    · simp only [Act.put, List.setIfInBounds_toArray, List.set_cons_zero, List.set_cons_succ, i64_w, i32_w]
                                      rfl
                                    refine pure_ (i := 12) (N := some 139) (v := undef) (a' := ?_) #[true, true, true, true, true, true, true, true, true, true, true, true, true, false, false, false, false] rfl rfl (any_of HT_.out (by kernel_rfl)) (fun _ _ _ h => h) (Or.inr ⟨by rfl, rfl⟩) ?_ ?_
                                    rotate_left
                                    · simp only [Act.put, List.setIfInBounds_toArray, List.set_cons_zero, List.set_cons_succ, i64_w, i32_w]
                                      rfl
                                    refine pure_ (i := 13) (N := some 140) (v := undef) (a' := ?_) #[true, true, true, true, true, true, true, true, true, true, true, true, true, true, false, false, false] rfl rfl (any_of HT_.out (by kernel_rfl)) (fun _ _ _ h => h) (Or.inr ⟨by rfl, rfl⟩) ?_ ?_
                                    rotate_left
                                    · simp only [Act.put, List.setIfInBounds_toArray, List.set_cons_zero, List.set_cons_succ, i64_w, i32_w]
                                      rfl
                                    refine pure_ (i := 14) (N := some 141) (v := undef) (a' := ?_) #[true, true, true, true, true, true, true, true, true, true, true, true, true, true, true, false, false] rfl rfl (any_of HT_.out (by kernel_rfl)) (fun _ _ _ h => h) (Or.inr ⟨by rfl, rfl⟩) ?_ ?_
                                    rotate_left
                                    · simp only [Act.put, List.setIfInBounds_toArray, List.set_cons_zero, List.set_cons_succ, i64_w, i32_w]
                                      rfl
                                    refine pure_ (i := 15) (N := some 142) (v := undef) (a' := ?_) #[true, true, true, true, true, true, true, true, true, true, true, true, true, true, true, true, false] rfl rfl (any_of HT_.out (by kernel_rfl)) (fun _ _ _ h => h) (Or.inr ⟨by rfl, rfl⟩) ?_ ?_
                                    rotate_left
                                    · simp only [Act.put, List.setIfInBounds_toArray, List.set_cons_zero, List.set_cons_succ, i64_w, i32_w]
                                      rfl
                                    refine pure_ (i := 16) (N := some 143) (v := ?_) (a' := ?_) #[true, true, true, true, true, true, true, true, true, true, true, true, true, true, true, true, true] rfl rfl (any_of HT_.out (by kernel_rfl)) (fun _ _ _ h => h) (Or.inl ⟨by rfl, ?_⟩) ?_ ?_
                                    rotate_left
                                    · intro w'
                                      go_simp
                                      with_reducible rfl
                                    rotate_left
                                    · simp only [Act.put, List.setIfInBounds_toArray, List.set_cons_zero, List.set_cons_succ, i64_w, i32_w]
                                      rfl
                                    refine done_ (done_of HT_.out (by kernel_rfl)) ?_
                                    try go_wp2
                                    go_meet
                                    case rel => exact ⟨_, (true), (t232), (t233), (t234), (t235), (t236), (t237), (by first | rfl | (simp; done) | (simp [*]; done)), H', ⟨by have := HJ3.out; have := HJ11.out; have := HK3.out; have := HJ24.out; first | omega | exact Nat.le_refl _⟩, ⟨by (with_reducible repeat (first | refine blk_drewN ?_ _ | refine blk_drew ?_ | refine blk_alloc ?_ _)); exact BK184.out⟩, ⟨by (with_reducible repeat (first | refine blk_drewN ?_ _ | refine blk_drew ?_ | refine blk_alloc ?_ _)); exact BK186.out⟩, ⟨by repeat (first | (with_reducible first | exact HI183.out | apply IsS42.alloc | apply IsS42.drewN | apply IsS42.drew | apply IsS42.set_0 | apply IsS42.set_1 | apply IsS42.set_2 | apply IsS42.set_3 | apply IsS42.set_4 | apply IsS42.set_5 | refine IsS42.far ?_ NB183_184.out _ | refine IsS42.far ?_ NB183_186.out _) | exact HI183.out)⟩, ⟨by repeat (first | (with_reducible first | exact HB.out | apply below_alloc | apply pw_below_drewN | apply below_drew1 | refine below_set ?_ (IsS42.ge HI183.out) | refine below_set ?_ GE184.out | refine below_set ?_ GE186.out) | exact HB.out)⟩⟩
                                · replace c80 := Bool.eq_false_iff.mpr c80
                                  subst c80
                                  have H1 : (if x185002_24 > 0 then (bywashlaw17_PingPlays.j5 kj24 x12_24 l2 (l2.length : Int) x74_3 true t232 t233 t234 t235 t236 t237 x185000_24 x185001_24 x185002_24 x185003_24 x185004_24 x185005_24) else ((ping_Health_Sent.f t232 t233 t234 t235 t236 t237).bind fun bt245 => (bywashlaw17_PingPlays.j5 kj24 x12_24 l2 (l2.length : Int) x74_3 (bt245.1 != x185004_24) bt245.2.1 bt245.2.2.1 bt245.2.2.2.1 bt245.2.2.2.2.1 bt245.2.2.2.2.2.1 bt245.2.2.2.2.2.2 x185000_24 x185001_24 x185002_24 x185003_24 x185004_24 x185005_24))) = some r := by rw [if_neg (show ¬ (false = true) by decide)] at H; exact H
                                  clear H
                                  have H := H1
                                  clear H1
                                  by_cases c88 : x185002_24 > 0
                                  · rw [if_pos c88] at H
                                    have c88b0 : decide (0 < x185002_24) = true := decide_eq_true c88
                                    clear c88
                                    have H' := Aside0.mk H
                                    clear H
                                    try go_wp2
                                    have n0_ := Aside0.mk (blk_drew BK184.out)
                                    have n1_ := Aside0.mk (blk_drew BK186.out)
                                    have n2_ := Aside0.mk (IsS42.drew HI183.out)
                                    have n3_ := Aside0.mk (below_drew1 HB.out)
                                    clear BK184
                                    clear BK186
                                    clear HI183
                                    clear HB
                                    have BK184 := n0_
                                    have BK186 := n1_
                                    have HI183 := n2_
                                    have HB := n3_
                                    clear n0_ n1_ n2_ n3_
                                    refine start_ (n := 17) (S := fun w' => w'.cell? ⟨gb184, 0, none⟩ = some (.int .i64 x185000_24) ∧ w'.cell? ⟨gb184, 1, none⟩ = some (.int .i64 x185001_24) ∧ w'.cell? ⟨gb184, 2, none⟩ = some (.int .i64 x185002_24) ∧ w'.cell? ⟨gb184, 3, none⟩ = some (.int .i64 x185003_24) ∧ w'.cell? ⟨gb184, 4, none⟩ = some (.int .i64 x185004_24) ∧ w'.cell? ⟨gb184, 5, none⟩ = some (.bool x185005_24)) (ds := []) #[false, false, false, false, false, false, false, false, false, false, false, false, false, false, false, false, false] (by kernel_rfl) rfl rfl ⟨(blk_cell BK184.out 0).trans rfl, (blk_cell BK184.out 1).trans rfl, (blk_cell BK184.out 2).trans rfl, (blk_cell BK184.out 3).trans rfl, (blk_cell BK184.out 4).trans rfl, (blk_cell BK184.out 5).trans rfl⟩ (fun hHeld => ?_); refine with_tabW bywashlaw17_PingPlays.tab31 bywashlaw17_PingPlays.bits31 (fun HT_ HW_ => ?_)
                                    generalize wc.drew = w89 at BK184 BK186 HI183 HB hHeld ⊢
                                    refine pure_ (i := 0) (N := some 127) (v := ?_) (a' := ?_) #[true, false, false, false, false, false, false, false, false, false, false, false, false, false, false, false, false] rfl rfl (any_of HT_.out (by kernel_rfl)) (fun _ _ _ h => h) (Or.inl ⟨by rfl, ?_⟩) ?_ ?_
                                    rotate_left
                                    · intro w'
                                      go_simp
                                      with_reducible rfl
                                    rotate_left
                                    · simp only [Act.put, List.setIfInBounds_toArray, List.set_cons_zero, List.set_cons_succ, i64_w, i32_w]
                                      rfl
                                    refine pure_ (i := 2) (N := some 129) (v := ?_) (a' := ?_) #[true, false, true, false, false, false, false, false, false, false, false, false, false, false, false, false, false] rfl rfl (any_of HT_.out (by kernel_rfl)) (fun _ _ _ h => h) (Or.inl ⟨by rfl, ?_⟩) ?_ ?_
                                    rotate_left
                                    · intro w'
                                      go_simp
                                      with_reducible rfl
                                    rotate_left
                                    · simp only [Act.put, List.setIfInBounds_toArray, List.set_cons_zero, List.set_cons_succ, i64_w, i32_w]
                                      rfl
                                    refine pure_ (i := 3) (N := some 130) (v := ?_) (a' := ?_) #[true, false, true, true, false, false, false, false, false, false, false, false, false, false, false, false, false] rfl rfl (any_of HT_.out (by kernel_rfl)) (fun _ _ _ h => h) (Or.inl ⟨by rfl, ?_⟩) ?_ ?_
                                    rotate_left
                                    · intro w'
                                      go_simp
                                      with_reducible rfl
                                    rotate_left
                                    · simp only [Act.put, List.setIfInBounds_toArray, List.set_cons_zero, List.set_cons_succ, i64_w, i32_w]
                                      rfl
                                    refine pure_ (i := 4) (N := some 131) (v := ?_) (a' := ?_) #[true, false, true, true, true, false, false, false, false, false, false, false, false, false, false, false, false] rfl rfl (any_of HT_.out (by kernel_rfl)) (fun _ _ _ h => h) (Or.inl ⟨by rfl, ?_⟩) ?_ ?_
                                    rotate_left
                                    · intro w'
                                      go_simp
                                      with_reducible rfl
                                    rotate_left
                                    · simp only [Act.put, List.setIfInBounds_toArray, List.set_cons_zero, List.set_cons_succ, i64_w, i32_w]
                                      rfl
                                    refine take_ (i := 5) (N := some 132) (v := ?_) (a' := ?_) #[true, false, true, true, true, true, false, false, false, false, false, false, false, false, false, false, false] rfl rfl (take_ofW HT_.out HW_.out (by kernel_rfl)) (fun _ _ _ h => h) (Or.inl ⟨by rfl, ?_⟩) hHeld ?_ ?_
                                    rotate_left
                                    · rintro w' ⟨s0, s1, s2, s3, s4, s5⟩
                                      go_simp
                                      with_reducible rfl
                                    rotate_left
                                    · simp only [Act.put, List.setIfInBounds_toArray, List.set_cons_zero, List.set_cons_succ, i64_w, i32_w]
                                      rfl
                                    refine pure_ (i := 6) (N := some 133) (v := ?_) (a' := ?_) #[true, false, true, true, true, true, true, false, false, false, false, false, false, false, false, false, false] rfl rfl (any_of HT_.out (by kernel_rfl)) (fun _ _ _ h => h) (Or.inl ⟨by rfl, ?_⟩) ?_ ?_
                                    rotate_left
                                    · intro w'
                                      go_simp
                                      with_reducible rfl
                                    rotate_left
                                    · simp only [Act.put, List.setIfInBounds_toArray, List.set_cons_zero, List.set_cons_succ, i64_w, i32_w]
                                      rfl
                                    refine one_ (i := 1) (N := some 128) #[true, true, true, true, true, true, true, false, false, false, false, false, false, false, false, false, false] rfl rfl (one_of HT_.out (by kernel_rfl)) (by decide) (fun K hK => ?_)
                                    refine goes_ Try.func12 (by kernel_rfl) rfl #[.pointer (some ⟨g183, 0, none⟩)] (by rfl) rfl rfl (by (try simp only [List.map_toArray, List.map_cons, List.map_nil]); first | done | rfl | (simp only [List.length_drop, List.length_take]; rfl)) ?_
                                    with_reducible refine (ping_Health_Waits.calls g183 x184000_24 x184001_24 x184002_24 x184003_24 x184004_24 x184005_24 false t232 t233 t234 t235 t236 t237 w _ ?side1 ?side2 A79.out).mono ?_
                                    (case side1 => repeat (first | (with_reducible first | exact HI183.out | apply IsS42.alloc | apply IsS42.drewN | apply IsS42.drew | apply IsS42.set_0 | apply IsS42.set_1 | apply IsS42.set_2 | apply IsS42.set_3 | apply IsS42.set_4 | apply IsS42.set_5 | refine IsS42.far ?_ NB183_184.out _ | refine IsS42.far ?_ NB183_186.out _) | exact HI183.out))
                                    (case side2 => repeat (first | (with_reducible first | exact HB.out | apply below_alloc | apply pw_below_drewN | apply below_drew1 | refine below_set ?_ (IsS42.ge HI183.out) | refine below_set ?_ GE184.out | refine below_set ?_ GE186.out) | exact HB.out))
                                    rintro e w90 ⟨rfl, hi, hb, hk⟩
                                    refine ⟨_, rfl, ?_⟩
                                    have n0_ := Aside0.mk (KeepBut.blk hk (g' := gb184) (o := .cells #[.int .i64 x185000_24, .int .i64 x185001_24, .int .i64 x185002_24, .int .i64 x185003_24, .int .i64 x185004_24, .bool x185005_24] 32 (0, 0)) (by (with_reducible repeat (first | refine blk_drewN ?_ _ | refine blk_drew ?_ | refine blk_alloc ?_ _)); exact BK184.out) NB184_183.out (by simp))
                                    have n1_ := Aside0.mk (KeepBut.blk hk (g' := gb186) (o := .cells #[.int .i64 ((rd_T34 l2 x74_3).f0), .string ((rd_T34 l2 x74_3).f1)] 34 (0, 0)) (by (with_reducible repeat (first | refine blk_drewN ?_ _ | refine blk_drew ?_ | refine blk_alloc ?_ _)); exact BK186.out) NB186_183.out (by simp))
                                    have n2_ := Aside0.mk (hb)
                                    have n3_ := Aside0.mk (hi)
                                    clear BK184
                                    clear BK186
                                    clear HB
                                    clear HI183
                                    have BK184 := n0_
                                    have BK186 := n1_
                                    have HB := n2_
                                    have HI183 := n3_
                                    clear n0_ n1_ n2_ n3_
                                    (try clear hb)
                                    (try clear hb2)
                                    (try clear hk)
                                    (try clear hi)
                                    refine hK.out _ _ ⟨(blk_cell BK184.out 0).trans rfl, (blk_cell BK184.out 1).trans rfl, (blk_cell BK184.out 2).trans rfl, (blk_cell BK184.out 3).trans rfl, (blk_cell BK184.out 4).trans rfl, (blk_cell BK184.out 5).trans rfl⟩ (fun hHeld => ?_)
                                    clear hK K
                                    refine norm_ (a' := ?_) ?_ ?_
                                    rotate_left
                                    · show Act.put _ (some 128) _ = _
                                      simp only [Act.put, List.setIfInBounds_toArray, List.set_cons_zero, List.set_cons_succ, i64_w, i32_w]
                                      rfl
                                    refine pure_ (i := 7) (N := some 134) (v := ?_) (a' := ?_) #[true, true, true, true, true, true, true, true, false, false, false, false, false, false, false, false, false] rfl rfl (any_of HT_.out (by kernel_rfl)) (fun _ _ _ h => h) (Or.inl ⟨by rfl, ?_⟩) ?_ ?_
                                    rotate_left
                                    · intro w'
                                      go_simp
                                      with_reducible rfl
                                    rotate_left
                                    · simp only [Act.put, List.setIfInBounds_toArray, List.set_cons_zero, List.set_cons_succ, i64_w, i32_w]
                                      rfl
                                    refine pure_ (i := 8) (N := some 135) (v := ?_) (a' := ?_) #[true, true, true, true, true, true, true, true, true, false, false, false, false, false, false, false, false] rfl rfl (any_of HT_.out (by kernel_rfl)) (fun _ _ _ h => h) (Or.inl ⟨by rfl, ?_⟩) ?_ ?_
                                    rotate_left
                                    · intro w'
                                      go_simp
                                      with_reducible rfl
                                    rotate_left
                                    · simp only [Act.put, List.setIfInBounds_toArray, List.set_cons_zero, List.set_cons_succ, i64_w, i32_w]
                                      rfl
                                    refine pure_ (i := 9) (N := some 136) (v := undef) (a' := ?_) #[true, true, true, true, true, true, true, true, true, true, false, false, false, false, false, false, false] rfl rfl (any_of HT_.out (by kernel_rfl)) (fun _ _ _ h => h) (Or.inr ⟨by rfl, rfl⟩) ?_ ?_
                                    rotate_left
                                    · simp only [Act.put, List.setIfInBounds_toArray, List.set_cons_zero, List.set_cons_succ, i64_w, i32_w]
                                      rfl
                                    refine pure_ (i := 10) (N := some 137) (v := undef) (a' := ?_) #[true, true, true, true, true, true, true, true, true, true, true, false, false, false, false, false, false] rfl rfl (any_of HT_.out (by kernel_rfl)) (fun _ _ _ h => h) (Or.inr ⟨by rfl, rfl⟩) ?_ ?_
                                    rotate_left
                                    · simp only [Act.put, List.setIfInBounds_toArray, List.set_cons_zero, List.set_cons_succ, i64_w, i32_w]
                                      rfl
                                    refine pure_ (i := 11) (N := some 138) (v := undef) (a' := ?_) #[true, true, true, true, true, true, true, true, true, true, true, true, false, false, false, false, false] rfl rfl (any_of HT_.out (by kernel_rfl)) (fun _ _ _ h => h) (Or.inr ⟨by rfl, rfl⟩) ?_ ?_
                                    rotate_left
                                    · simp only [Act.put, List.setIfInBounds_toArray, List.set_cons_zero, List.set_cons_succ, i64_w, i32_w]
                                      rfl
                                    refine pure_ (i := 12) (N := some 139) (v := undef) (a' := ?_) #[true, true, true, true, true, true, true, true, true, true, true, true, true, false, false, false, false] rfl rfl (any_of HT_.out (by kernel_rfl)) (fun _ _ _ h => h) (Or.inr ⟨by rfl, rfl⟩) ?_ ?_
                                    rotate_left
                                    · simp only [Act.put, List.setIfInBounds_toArray, List.set_cons_zero, List.set_cons_succ, i64_w, i32_w]
                                      rfl
                                    refine pure_ (i := 13) (N := some 140) (v := undef) (a' := ?_) #[true, true, true, true, true, true, true, true, true, true, true, true, true, true, false, false, false] rfl rfl (any_of HT_.out (by kernel_rfl)) (fun _ _ _ h => h) (Or.inr ⟨by rfl, rfl⟩) ?_ ?_
                                    rotate_left
                                    · simp only [Act.put, List.setIfInBounds_toArray, List.set_cons_zero, List.set_cons_succ, i64_w, i32_w]
                                      rfl
                                    refine pure_ (i := 14) (N := some 141) (v := undef) (a' := ?_) #[true, true, true, true, true, true, true, true, true, true, true, true, true, true, true, false, false] rfl rfl (any_of HT_.out (by kernel_rfl)) (fun _ _ _ h => h) (Or.inr ⟨by rfl, rfl⟩) ?_ ?_
                                    rotate_left
                                    · simp only [Act.put, List.setIfInBounds_toArray, List.set_cons_zero, List.set_cons_succ, i64_w, i32_w]
                                      rfl
                                    refine pure_ (i := 15) (N := some 142) (v := undef) (a' := ?_) #[true, true, true, true, true, true, true, true, true, true, true, true, true, true, true, true, false] rfl rfl (any_of HT_.out (by kernel_rfl)) (fun _ _ _ h => h) (Or.inr ⟨by rfl, rfl⟩) ?_ ?_
                                    rotate_left
                                    · simp only [Act.put, List.setIfInBounds_toArray, List.set_cons_zero, List.set_cons_succ, i64_w, i32_w]
                                      rfl
                                    refine pure_ (i := 16) (N := some 143) (v := ?_) (a' := ?_) #[true, true, true, true, true, true, true, true, true, true, true, true, true, true, true, true, true] rfl rfl (any_of HT_.out (by kernel_rfl)) (fun _ _ _ h => h) (Or.inl ⟨by rfl, ?_⟩) ?_ ?_
                                    rotate_left
                                    · intro w'
                                      go_simp
                                      with_reducible rfl
                                    rotate_left
                                    · simp only [Act.put, List.setIfInBounds_toArray, List.set_cons_zero, List.set_cons_succ, i64_w, i32_w]
                                      rfl
                                    refine done_ (done_of HT_.out (by kernel_rfl)) ?_
                                    try go_wp2
                                    go_meet
                                    case rel => exact ⟨_, (true), (t232), (t233), (t234), (t235), (t236), (t237), (by first | rfl | (simp; done) | (simp [*]; done)), H', ⟨by have := HJ3.out; have := HJ11.out; have := HK3.out; have := HJ24.out; first | omega | exact Nat.le_refl _⟩, ⟨by (with_reducible repeat (first | refine blk_drewN ?_ _ | refine blk_drew ?_ | refine blk_alloc ?_ _)); exact BK184.out⟩, ⟨by (with_reducible repeat (first | refine blk_drewN ?_ _ | refine blk_drew ?_ | refine blk_alloc ?_ _)); exact BK186.out⟩, ⟨by repeat (first | (with_reducible first | exact HI183.out | apply IsS42.alloc | apply IsS42.drewN | apply IsS42.drew | apply IsS42.set_0 | apply IsS42.set_1 | apply IsS42.set_2 | apply IsS42.set_3 | apply IsS42.set_4 | apply IsS42.set_5 | refine IsS42.far ?_ NB183_184.out _ | refine IsS42.far ?_ NB183_186.out _) | exact HI183.out)⟩, ⟨by repeat (first | (with_reducible first | exact HB.out | apply below_alloc | apply pw_below_drewN | apply below_drew1 | refine below_set ?_ (IsS42.ge HI183.out) | refine below_set ?_ GE184.out | refine below_set ?_ GE186.out) | exact HB.out)⟩⟩
                                  · rw [if_neg c88] at H
                                    have c88b0 : decide (0 < x185002_24) = false := decide_eq_false c88
                                    clear c88
                                    replace H := Option.bind_eq_some_iff.mp H
                                    obtain ⟨⟨t245, t246, t247, t248, t249, t250, t251⟩, A910, H⟩ := H
                                    replace H : (bywashlaw17_PingPlays.j5 kj24 x12_24 l2 (l2.length : Int) x74_3 (t245 != x185004_24) t246 t247 t248 t249 t250 t251 x185000_24 x185001_24 x185002_24 x185003_24 x185004_24 x185005_24) = some r := H
                                    have A91 := Aside0.mk A910
                                    clear A910
                                    have H' := Aside0.mk H
                                    clear H
                                    try go_wp2
                                    have n0_ := Aside0.mk (blk_drew BK184.out)
                                    have n1_ := Aside0.mk (blk_drew BK186.out)
                                    have n2_ := Aside0.mk (IsS42.drew HI183.out)
                                    have n3_ := Aside0.mk (below_drew1 HB.out)
                                    clear BK184
                                    clear BK186
                                    clear HI183
                                    clear HB
                                    have BK184 := n0_
                                    have BK186 := n1_
                                    have HI183 := n2_
                                    have HB := n3_
                                    clear n0_ n1_ n2_ n3_
                                    refine start_ (n := 17) (S := fun w' => w'.cell? ⟨gb184, 0, none⟩ = some (.int .i64 x185000_24) ∧ w'.cell? ⟨gb184, 1, none⟩ = some (.int .i64 x185001_24) ∧ w'.cell? ⟨gb184, 2, none⟩ = some (.int .i64 x185002_24) ∧ w'.cell? ⟨gb184, 3, none⟩ = some (.int .i64 x185003_24) ∧ w'.cell? ⟨gb184, 4, none⟩ = some (.int .i64 x185004_24) ∧ w'.cell? ⟨gb184, 5, none⟩ = some (.bool x185005_24)) (ds := []) #[false, false, false, false, false, false, false, false, false, false, false, false, false, false, false, false, false] (by kernel_rfl) rfl rfl ⟨(blk_cell BK184.out 0).trans rfl, (blk_cell BK184.out 1).trans rfl, (blk_cell BK184.out 2).trans rfl, (blk_cell BK184.out 3).trans rfl, (blk_cell BK184.out 4).trans rfl, (blk_cell BK184.out 5).trans rfl⟩ (fun hHeld => ?_); refine with_tabW bywashlaw17_PingPlays.tab31 bywashlaw17_PingPlays.bits31 (fun HT_ HW_ => ?_)
                                    generalize wc.drew = w92 at BK184 BK186 HI183 HB hHeld ⊢
                                    refine pure_ (i := 0) (N := some 127) (v := ?_) (a' := ?_) #[true, false, false, false, false, false, false, false, false, false, false, false, false, false, false, false, false] rfl rfl (any_of HT_.out (by kernel_rfl)) (fun _ _ _ h => h) (Or.inl ⟨by rfl, ?_⟩) ?_ ?_
                                    rotate_left
                                    · intro w'
                                      go_simp
                                      with_reducible rfl
                                    rotate_left
                                    · simp only [Act.put, List.setIfInBounds_toArray, List.set_cons_zero, List.set_cons_succ, i64_w, i32_w]
                                      rfl
                                    refine pure_ (i := 2) (N := some 129) (v := ?_) (a' := ?_) #[true, false, true, false, false, false, false, false, false, false, false, false, false, false, false, false, false] rfl rfl (any_of HT_.out (by kernel_rfl)) (fun _ _ _ h => h) (Or.inl ⟨by rfl, ?_⟩) ?_ ?_
                                    rotate_left
                                    · intro w'
                                      go_simp
                                      with_reducible rfl
                                    rotate_left
                                    · simp only [Act.put, List.setIfInBounds_toArray, List.set_cons_zero, List.set_cons_succ, i64_w, i32_w]
                                      rfl
                                    refine pure_ (i := 3) (N := some 130) (v := ?_) (a' := ?_) #[true, false, true, true, false, false, false, false, false, false, false, false, false, false, false, false, false] rfl rfl (any_of HT_.out (by kernel_rfl)) (fun _ _ _ h => h) (Or.inl ⟨by rfl, ?_⟩) ?_ ?_
                                    rotate_left
                                    · intro w'
                                      go_simp
                                      with_reducible rfl
                                    rotate_left
                                    · simp only [Act.put, List.setIfInBounds_toArray, List.set_cons_zero, List.set_cons_succ, i64_w, i32_w]
                                      rfl
                                    refine pure_ (i := 4) (N := some 131) (v := ?_) (a' := ?_) #[true, false, true, true, true, false, false, false, false, false, false, false, false, false, false, false, false] rfl rfl (any_of HT_.out (by kernel_rfl)) (fun _ _ _ h => h) (Or.inl ⟨by rfl, ?_⟩) ?_ ?_
                                    rotate_left
                                    · intro w'
                                      go_simp
                                      with_reducible rfl
                                    rotate_left
                                    · simp only [Act.put, List.setIfInBounds_toArray, List.set_cons_zero, List.set_cons_succ, i64_w, i32_w]
                                      rfl
                                    refine take_ (i := 5) (N := some 132) (v := ?_) (a' := ?_) #[true, false, true, true, true, true, false, false, false, false, false, false, false, false, false, false, false] rfl rfl (take_ofW HT_.out HW_.out (by kernel_rfl)) (fun _ _ _ h => h) (Or.inl ⟨by rfl, ?_⟩) hHeld ?_ ?_
                                    rotate_left
                                    · rintro w' ⟨s0, s1, s2, s3, s4, s5⟩
                                      go_simp
                                      with_reducible rfl
                                    rotate_left
                                    · simp only [Act.put, List.setIfInBounds_toArray, List.set_cons_zero, List.set_cons_succ, i64_w, i32_w]
                                      rfl
                                    refine pure_ (i := 6) (N := some 133) (v := ?_) (a' := ?_) #[true, false, true, true, true, true, true, false, false, false, false, false, false, false, false, false, false] rfl rfl (any_of HT_.out (by kernel_rfl)) (fun _ _ _ h => h) (Or.inl ⟨by rfl, ?_⟩) ?_ ?_
                                    rotate_left
                                    · intro w'
                                      go_simp
                                      with_reducible rfl
                                    rotate_left
                                    · simp only [Act.put, List.setIfInBounds_toArray, List.set_cons_zero, List.set_cons_succ, i64_w, i32_w]
                                      rfl
                                    refine one_ (i := 1) (N := some 128) #[true, true, true, true, true, true, true, false, false, false, false, false, false, false, false, false, false] rfl rfl (one_of HT_.out (by kernel_rfl)) (by decide) (fun K hK => ?_)
                                    refine goes_ Try.func12 (by kernel_rfl) rfl #[.pointer (some ⟨g183, 0, none⟩)] (by rfl) rfl rfl (by (try simp only [List.map_toArray, List.map_cons, List.map_nil]); first | done | rfl | (simp only [List.length_drop, List.length_take]; rfl)) ?_
                                    with_reducible refine (ping_Health_Waits.calls g183 x184000_24 x184001_24 x184002_24 x184003_24 x184004_24 x184005_24 false t232 t233 t234 t235 t236 t237 w _ ?side1 ?side2 A79.out).mono ?_
                                    (case side1 => repeat (first | (with_reducible first | exact HI183.out | apply IsS42.alloc | apply IsS42.drewN | apply IsS42.drew | apply IsS42.set_0 | apply IsS42.set_1 | apply IsS42.set_2 | apply IsS42.set_3 | apply IsS42.set_4 | apply IsS42.set_5 | refine IsS42.far ?_ NB183_184.out _ | refine IsS42.far ?_ NB183_186.out _) | exact HI183.out))
                                    (case side2 => repeat (first | (with_reducible first | exact HB.out | apply below_alloc | apply pw_below_drewN | apply below_drew1 | refine below_set ?_ (IsS42.ge HI183.out) | refine below_set ?_ GE184.out | refine below_set ?_ GE186.out) | exact HB.out))
                                    rintro e w93 ⟨rfl, hi, hb, hk⟩
                                    refine ⟨_, rfl, ?_⟩
                                    have n0_ := Aside0.mk (KeepBut.blk hk (g' := gb184) (o := .cells #[.int .i64 x185000_24, .int .i64 x185001_24, .int .i64 x185002_24, .int .i64 x185003_24, .int .i64 x185004_24, .bool x185005_24] 32 (0, 0)) (by (with_reducible repeat (first | refine blk_drewN ?_ _ | refine blk_drew ?_ | refine blk_alloc ?_ _)); exact BK184.out) NB184_183.out (by simp))
                                    have n1_ := Aside0.mk (KeepBut.blk hk (g' := gb186) (o := .cells #[.int .i64 ((rd_T34 l2 x74_3).f0), .string ((rd_T34 l2 x74_3).f1)] 34 (0, 0)) (by (with_reducible repeat (first | refine blk_drewN ?_ _ | refine blk_drew ?_ | refine blk_alloc ?_ _)); exact BK186.out) NB186_183.out (by simp))
                                    have n2_ := Aside0.mk (hb)
                                    have n3_ := Aside0.mk (hi)
                                    clear BK184
                                    clear BK186
                                    clear HB
                                    clear HI183
                                    have BK184 := n0_
                                    have BK186 := n1_
                                    have HB := n2_
                                    have HI183 := n3_
                                    clear n0_ n1_ n2_ n3_
                                    (try clear hb)
                                    (try clear hb2)
                                    (try clear hk)
                                    (try clear hi)
                                    refine hK.out _ _ ⟨(blk_cell BK184.out 0).trans rfl, (blk_cell BK184.out 1).trans rfl, (blk_cell BK184.out 2).trans rfl, (blk_cell BK184.out 3).trans rfl, (blk_cell BK184.out 4).trans rfl, (blk_cell BK184.out 5).trans rfl⟩ (fun hHeld => ?_)
                                    clear hK K
                                    refine norm_ (a' := ?_) ?_ ?_
                                    rotate_left
                                    · show Act.put _ (some 128) _ = _
                                      simp only [Act.put, List.setIfInBounds_toArray, List.set_cons_zero, List.set_cons_succ, i64_w, i32_w]
                                      rfl
                                    refine pure_ (i := 7) (N := some 134) (v := ?_) (a' := ?_) #[true, true, true, true, true, true, true, true, false, false, false, false, false, false, false, false, false] rfl rfl (any_of HT_.out (by kernel_rfl)) (fun _ _ _ h => h) (Or.inl ⟨by rfl, ?_⟩) ?_ ?_
                                    rotate_left
                                    · intro w'
                                      go_simp
                                      with_reducible rfl
                                    rotate_left
                                    · simp only [Act.put, List.setIfInBounds_toArray, List.set_cons_zero, List.set_cons_succ, i64_w, i32_w]
                                      rfl
                                    refine pure_ (i := 8) (N := some 135) (v := ?_) (a' := ?_) #[true, true, true, true, true, true, true, true, true, false, false, false, false, false, false, false, false] rfl rfl (any_of HT_.out (by kernel_rfl)) (fun _ _ _ h => h) (Or.inl ⟨by rfl, ?_⟩) ?_ ?_
                                    rotate_left
                                    · intro w'
                                      go_simp
                                      with_reducible rfl
                                    rotate_left
                                    · simp only [Act.put, List.setIfInBounds_toArray, List.set_cons_zero, List.set_cons_succ, i64_w, i32_w]
                                      rfl
                                    refine pure_ (i := 9) (N := some 136) (v := ?_) (a' := ?_) #[true, true, true, true, true, true, true, true, true, true, false, false, false, false, false, false, false] rfl rfl (any_of HT_.out (by kernel_rfl)) (fun _ _ _ h => h) (Or.inl ⟨by rfl, ?_⟩) ?_ ?_
                                    rotate_left
                                    · intro w'
                                      go_simp
                                      with_reducible rfl
                                    rotate_left
                                    · simp only [Act.put, List.setIfInBounds_toArray, List.set_cons_zero, List.set_cons_succ, i64_w, i32_w]
                                      rfl
                                    refine pure_ (i := 11) (N := some 138) (v := ?_) (a' := ?_) #[true, true, true, true, true, true, true, true, true, true, false, true, false, false, false, false, false] rfl rfl (any_of HT_.out (by kernel_rfl)) (fun _ _ _ h => h) (Or.inl ⟨by rfl, ?_⟩) ?_ ?_
                                    rotate_left
                                    · intro w'
                                      go_simp
                                      with_reducible rfl
                                    rotate_left
                                    · simp only [Act.put, List.setIfInBounds_toArray, List.set_cons_zero, List.set_cons_succ, i64_w, i32_w]
                                      rfl
                                    refine pure_ (i := 12) (N := some 139) (v := ?_) (a' := ?_) #[true, true, true, true, true, true, true, true, true, true, false, true, true, false, false, false, false] rfl rfl (any_of HT_.out (by kernel_rfl)) (fun _ _ _ h => h) (Or.inl ⟨by rfl, ?_⟩) ?_ ?_
                                    rotate_left
                                    · intro w'
                                      go_simp
                                      with_reducible rfl
                                    rotate_left
                                    · simp only [Act.put, List.setIfInBounds_toArray, List.set_cons_zero, List.set_cons_succ, i64_w, i32_w]
                                      rfl
                                    refine pure_ (i := 13) (N := some 140) (v := ?_) (a' := ?_) #[true, true, true, true, true, true, true, true, true, true, false, true, true, true, false, false, false] rfl rfl (any_of HT_.out (by kernel_rfl)) (fun _ _ _ h => h) (Or.inl ⟨by rfl, ?_⟩) ?_ ?_
                                    rotate_left
                                    · intro w'
                                      go_simp
                                      with_reducible rfl
                                    rotate_left
                                    · simp only [Act.put, List.setIfInBounds_toArray, List.set_cons_zero, List.set_cons_succ, i64_w, i32_w]
                                      rfl
                                    refine take_ (i := 14) (N := some 141) (v := ?_) (a' := ?_) #[true, true, true, true, true, true, true, true, true, true, false, true, true, true, true, false, false] rfl rfl (take_ofW HT_.out HW_.out (by kernel_rfl)) (fun _ _ _ h => h) (Or.inl ⟨by rfl, ?_⟩) hHeld ?_ ?_
                                    rotate_left
                                    · rintro w' ⟨s0, s1, s2, s3, s4, s5⟩
                                      go_simp
                                      with_reducible rfl
                                    rotate_left
                                    · simp only [Act.put, List.setIfInBounds_toArray, List.set_cons_zero, List.set_cons_succ, i64_w, i32_w]
                                      rfl
                                    refine one_ (i := 10) (N := some 137) #[true, true, true, true, true, true, true, true, true, true, true, true, true, true, true, false, false] rfl rfl (one_of HT_.out (by kernel_rfl)) (by decide) (fun K hK => ?_)
                                    refine goes_ Try.func13 (by kernel_rfl) rfl #[.pointer (some ⟨g183, 0, none⟩)] (by rfl) rfl rfl (by (try simp only [List.map_toArray, List.map_cons, List.map_nil]); first | done | rfl | (simp only [List.length_drop, List.length_take]; rfl)) ?_
                                    with_reducible refine (ping_Health_Sent.calls g183 t232 t233 t234 t235 t236 t237 t245 t246 t247 t248 t249 t250 t251 w _ ?side1 ?side2 A91.out).mono ?_
                                    (case side1 => repeat (first | (with_reducible first | exact HI183.out | apply IsS42.alloc | apply IsS42.drewN | apply IsS42.drew | apply IsS42.set_0 | apply IsS42.set_1 | apply IsS42.set_2 | apply IsS42.set_3 | apply IsS42.set_4 | apply IsS42.set_5 | refine IsS42.far ?_ NB183_184.out _ | refine IsS42.far ?_ NB183_186.out _) | exact HI183.out))
                                    (case side2 => repeat (first | (with_reducible first | exact HB.out | apply below_alloc | apply pw_below_drewN | apply below_drew1 | refine below_set ?_ (IsS42.ge HI183.out) | refine below_set ?_ GE184.out | refine below_set ?_ GE186.out) | exact HB.out))
                                    rintro e w94 ⟨rfl, hi, hb, hk⟩
                                    refine ⟨_, rfl, ?_⟩
                                    have n0_ := Aside0.mk (KeepBut.blk hk (g' := gb184) (o := .cells #[.int .i64 x185000_24, .int .i64 x185001_24, .int .i64 x185002_24, .int .i64 x185003_24, .int .i64 x185004_24, .bool x185005_24] 32 (0, 0)) (by (with_reducible repeat (first | refine blk_drewN ?_ _ | refine blk_drew ?_ | refine blk_alloc ?_ _)); exact BK184.out) NB184_183.out (by simp))
                                    have n1_ := Aside0.mk (KeepBut.blk hk (g' := gb186) (o := .cells #[.int .i64 ((rd_T34 l2 x74_3).f0), .string ((rd_T34 l2 x74_3).f1)] 34 (0, 0)) (by (with_reducible repeat (first | refine blk_drewN ?_ _ | refine blk_drew ?_ | refine blk_alloc ?_ _)); exact BK186.out) NB186_183.out (by simp))
                                    have n2_ := Aside0.mk (hb)
                                    have n3_ := Aside0.mk (hi)
                                    clear BK184
                                    clear BK186
                                    clear HB
                                    clear HI183
                                    have BK184 := n0_
                                    have BK186 := n1_
                                    have HB := n2_
                                    have HI183 := n3_
                                    clear n0_ n1_ n2_ n3_
                                    (try clear hb)
                                    (try clear hb2)
                                    (try clear hk)
                                    (try clear hi)
                                    refine hK.out _ _ ⟨(blk_cell BK184.out 0).trans rfl, (blk_cell BK184.out 1).trans rfl, (blk_cell BK184.out 2).trans rfl, (blk_cell BK184.out 3).trans rfl, (blk_cell BK184.out 4).trans rfl, (blk_cell BK184.out 5).trans rfl⟩ (fun hHeld => ?_)
                                    clear hK K
                                    refine norm_ (a' := ?_) ?_ ?_
                                    rotate_left
                                    · show Act.put _ (some 137) _ = _
                                      simp only [Act.put, List.setIfInBounds_toArray, List.set_cons_zero, List.set_cons_succ, i64_w, i32_w]
                                      rfl
                                    refine pure_ (i := 15) (N := some 142) (v := ?_) (a' := ?_) #[true, true, true, true, true, true, true, true, true, true, true, true, true, true, true, true, false] rfl rfl (any_of HT_.out (by kernel_rfl)) (fun _ _ _ h => h) (Or.inl ⟨by rfl, ?_⟩) ?_ ?_
                                    rotate_left
                                    · intro w'
                                      go_simp
                                      with_reducible rfl
                                    rotate_left
                                    · simp only [Act.put, List.setIfInBounds_toArray, List.set_cons_zero, List.set_cons_succ, i64_w, i32_w]
                                      rfl
                                    refine pure_ (i := 16) (N := some 143) (v := ?_) (a' := ?_) #[true, true, true, true, true, true, true, true, true, true, true, true, true, true, true, true, true] rfl rfl (any_of HT_.out (by kernel_rfl)) (fun _ _ _ h => h) (Or.inl ⟨by rfl, ?_⟩) ?_ ?_
                                    rotate_left
                                    · intro w'
                                      go_simp
                                      with_reducible rfl
                                    rotate_left
                                    · simp only [Act.put, List.setIfInBounds_toArray, List.set_cons_zero, List.set_cons_succ, i64_w, i32_w]
                                      rfl
                                    refine done_ (done_of HT_.out (by kernel_rfl)) ?_
                                    try go_wp2
                                    go_meet
                                    case rel => exact ⟨_, ((t245 != x185004_24)), (t246), (t247), (t248), (t249), (t250), (t251), (by first | rfl | (simp; done) | (simp [*]; done)), H', ⟨by have := HJ3.out; have := HJ11.out; have := HK3.out; have := HJ24.out; first | omega | exact Nat.le_refl _⟩, ⟨by (with_reducible repeat (first | refine blk_drewN ?_ _ | refine blk_drew ?_ | refine blk_alloc ?_ _)); exact BK184.out⟩, ⟨by (with_reducible repeat (first | refine blk_drewN ?_ _ | refine blk_drew ?_ | refine blk_alloc ?_ _)); exact BK186.out⟩, ⟨by repeat (first | (with_reducible first | exact HI183.out | apply IsS42.alloc | apply IsS42.drewN | apply IsS42.drew | apply IsS42.set_0 | apply IsS42.set_1 | apply IsS42.set_2 | apply IsS42.set_3 | apply IsS42.set_4 | apply IsS42.set_5 | refine IsS42.far ?_ NB183_184.out _ | refine IsS42.far ?_ NB183_186.out _) | exact HI183.out)⟩, ⟨by repeat (first | (with_reducible first | exact HB.out | apply below_alloc | apply pw_below_drewN | apply below_drew1 | refine below_set ?_ (IsS42.ge HI183.out) | refine below_set ?_ GE184.out | refine below_set ?_ GE186.out) | exact HB.out)⟩⟩
                              case rest =>
                                clear HC78
                                try clear c1
                                try clear p2
                                try clear c8
                                try clear c12
                                try clear c13
                                try clear c80
                                try clear c81
                                try clear c81b0
                                try clear c88
                                try clear c88b0
                                obtain ⟨kq, x143_77, x184000_77, x184001_77, x184002_77, x184003_77, x184004_77, x184005_77, rfl, HA, HJ77, BK184, BK186, HI183, HB⟩ := hcut
                                cases kq with
                                | zero => exact absurd HA.out (by simp [bywashlaw17_PingPlays.j5])
                                | succ kj77 =>
                                  have H := HA.out
                                  clear HA
                                  simp only [bywashlaw17_PingPlays.j5] at H
                                  by_cases c95 : x143_77 = true
                                  · subst c95
                                    have H1 : (some false) = some r := by rw [if_pos rfl] at H; exact H
                                    clear H
                                    have H := H1
                                    clear H1
                                    obtain rfl := Option.some.inj H
                                    go_wp2
                                    go_ret
                                    exact ⟨by first | rfl | (simp [errW_none, errW_some] <;> rfl) | (simp [*, errW_none, errW_some] <;> rfl), by repeat (first | (with_reducible first | exact HB.out | apply below_alloc | apply pw_below_drewN | apply below_drew1 | refine below_set ?_ (IsS42.ge HI183.out) | refine below_set ?_ GE184.out | refine below_set ?_ GE186.out) | exact HB.out)⟩
                                  · replace c95 := Bool.eq_false_iff.mpr c95
                                    subst c95
                                    have H1 : (bywashlaw17_PingPlays.l0 kj77 x12_24 l2 (l2.length : Int) (wrap64 (x74_3 + 1)) x184000_77 x184001_77 x184002_77 x184003_77 x184004_77 x184005_77 x185000_24 x185001_24 x185002_24 x185003_24 x185004_24 x185005_24) = some r := by rw [if_neg (show ¬ (false = true) by decide)] at H; exact H
                                    clear H
                                    have H := H1
                                    clear H1
                                    have H' := Aside0.mk H
                                    clear H
                                    go_wp2
                                    go_roundg kj77
                                    case measure => have := HJ3.out; have := HJ11.out; have := HK3.out; have := HJ24.out; have := HJ77.out; omega
                                    case rel => exact ⟨(x12_24), (wrap64 (x74_3 + 1)), (x184000_77), (x184001_77), (x184002_77), (x184003_77), (x184004_77), (x184005_77), (x185000_24), (x185001_24), (x185002_24), (x185003_24), (x185004_24), (x185005_24), (by first | rfl | (simp; done) | (simp [*]; done)), (by first | rfl | (simp; done) | (simp [*]; done)), H', ⟨by have := HJ3.out; have := HJ11.out; have := HK3.out; have := HJ24.out; have := HJ77.out; omega⟩, ⟨by (with_reducible repeat (first | refine blk_drewN ?_ _ | refine blk_drew ?_ | refine blk_alloc ?_ _)); exact BK184.out⟩, ⟨by repeat (first | (with_reducible first | exact HI183.out | apply IsS42.alloc | apply IsS42.drewN | apply IsS42.drew | apply IsS42.set_0 | apply IsS42.set_1 | apply IsS42.set_2 | apply IsS42.set_3 | apply IsS42.set_4 | apply IsS42.set_5 | refine IsS42.far ?_ NB183_184.out _ | refine IsS42.far ?_ NB183_186.out _) | exact HI183.out)⟩, ⟨by repeat (first | (with_reducible first | exact HB.out | apply below_alloc | apply pw_below_drewN | apply below_drew1 | refine below_set ?_ (IsS42.ge HI183.out) | refine below_set ?_ GE184.out | refine below_set ?_ GE186.out) | exact HB.out)⟩⟩
                      · rw [if_neg c19] at H
                        exact absurd H (by simp)
                    · rw [if_neg c18] at H
                      exact absurd H (by simp)
                  · rw [if_neg c17] at H
                    have c17b0 : decide (x74_3 < (l2.length : Int)) = false := decide_eq_false c17
                    clear c17
                    obtain rfl := Option.some.inj H
                    go_wp2
                    go_ret
                    exact ⟨by first | rfl | (simp [errW_none, errW_some] <;> rfl) | (simp [*, errW_none, errW_some] <;> rfl), by repeat (first | (with_reducible first | exact HB.out | apply below_alloc | apply pw_below_drewN | apply below_drew1 | refine below_set ?_ (IsS42.ge HI183.out) | refine below_set ?_ GE184.out) | exact HB.out)⟩

end Go.Proofs.Ytkakcalabpobpaa.PPingPlays
