/- Every parts, every windows: what goes; how much it is; what is handed in stays; what was told is not changed by what is told later. Conditions: those of the statement itself. -/
import Derived.Test.YtndchendimbfnaaPPumpTellsx0
import Derived.Test.YtndchendimbfnaaPPumpTellsx1
import Derived.Test.YtndchendimbfnaaPPumpTellsx2
import Derived.Test.YtndchendimbfnaaPPumpTellsx3
import Derived.Test.YtndchendimbfnaaPPumpTellsx4
import Derived.Test.YtndchendimbfnaaPPumpTellsx5
import Derived.Test.YtndchendimbfnaaStaPumpTells
import Derived.Test.YtndchendimbfnaaAid
namespace Go.Proofs.Ytndchendimbfnaa.Pure
open Go.RowKit Go.Proofs.YtndchendimbfnaaW.PrintWords Go.Proofs.YtndchendimbfnaaW.PrintLast Go.Proofs.YtndchendimbfnaaW.PrintMore Go.Proofs.Ytndchendimbfnaa.Aid Go.Proofs.Ytndchendimbfnaa.PPumpTells Go.Proofs.Ytndchendimbfnaa.StaPumpTells
set_option linter.unusedVariables false
set_option linter.unusedSimpArgs false

def sumN (l : List S34) : Int := (l.map (·.f1)).sum
/-- What a part sends: its slices, and what the connection may send behind them. -/
def go (most id : Int) (e : Bool) : Nat → Int → Int → Int → List S34 × Int
  | 0, left, _, _ => ([], left)
  | d + 1, left, lft, pend =>
    let n := mn (mn (mn pend lft) left) most
    if n > 0 then (⟨id, n, decide (pend - n = 0) && e⟩ :: (go most id e d (left - n) (lft - n) (pend - n)).1, (go most id e d (left - n) (lft - n) (pend - n)).2) else ([], left)
theorem go_len (most id : Int) (e : Bool) (d : Nat) : ∀ left lft pend : Int, (go most id e d left lft pend).1.length ≤ d := by
  induction d with
  | zero => intro left lft pend; simp [go]
  | succ d ih =>
    intro left lft pend
    simp only [go]
    split
    · simpa using ih _ _ _
    · simp
def Rg (x : Int) : Prop := -9223372036854775808 ≤ x ∧ x ≤ 9223372036854775807
theorem l1_ev {r : List S34} (most id : Int) (e : Bool) (xs : List S26) (x12 x13 : Int) (d : Nat) :
    ∀ (left lft pend : Int) (out : List S34), Rg left → Rg lft → Rg pend → pend ≤ d → out.length + d < 5864062014805 →
      Ev (fun k => pump_Plan.l0 k (go most id e d left lft pend).2 most (out ++ (go most id e d left lft pend).1) xs x12 (wrap64 (x13 + 1))) r →
      Ev (fun k => pump_Plan.l1 k left most out (mn (mn (mn pend lft) left) most) xs x12 x13 id lft pend e) r := by
  induction d with
  | zero =>
    intro left lft pend out h1 h2 h3 h4 h5 h
    have a1 := mn_le pend lft
    have a2 := mn_le (mn pend lft) left
    have a3 := mn_le (mn (mn pend lft) left) most
    refine Ev.step (fun k => pump_Plan.l1.eq_2 ..) ?_
    refine Ev_neg (by omega) ?_
    simpa [go] using h
  | succ d ih =>
    intro left lft pend out h1 h2 h3 h4 h5 h
    have a1 := mn_le pend lft
    have a2 := mn_le (mn pend lft) left
    have a3 := mn_le (mn (mn pend lft) left) most
    obtain ⟨h1, h1'⟩ := h1
    obtain ⟨h2, h2'⟩ := h2
    obtain ⟨h3, h3'⟩ := h3
    refine Ev.step (fun k => pump_Plan.l1.eq_2 ..) ?_
    by_cases hn : mn (mn (mn pend lft) left) most > 0
    · simp only [go, if_pos hn] at h
      generalize mn (mn (mn pend lft) left) most = n at *
      refine Ev_pos hn ?_
      rw [wid (x := pend - n) (by omega) (by omega), wid (x := lft - n) (by omega) (by omega), wid (x := left - n) (by omega) (by omega)]
      have key : ∀ q : Bool, q = (decide (pend - n = 0) && e) → Ev (fun k => pump_Plan.l1 k (left - n) most (out ++ [⟨id, n, q⟩]) (mn (mn (mn (pend - n) (lft - n)) (left - n)) most) xs x12 x13 id (lft - n) (pend - n) e) r := by
        intro q hq
        refine ih (left - n) (lft - n) (pend - n) _ ⟨by omega, by omega⟩ ⟨by omega, by omega⟩ ⟨by omega, by omega⟩ (by omega) (by simp; omega) ?_
        rw [hq, List.append_assoc, List.singleton_append]
        exact h
      by_cases hz : pend - n = 0
      · exact Ev_pos hz (Ev_pos (by omega) (key e (by simp [hz])))
      · exact Ev_neg hz (Ev_pos (by omega) (key false (by simp [hz])))
    · simp only [go, if_neg hn] at h
      refine Ev_neg hn ?_
      simpa using h
/-- All slices of a part. -/
def part (most left : Int) (x : S26) : List S34 × Int :=
  ((if x.f2 = 0 ∧ x.f3 = true then [⟨x.f0, 0, true⟩] else []) ++ (go most x.f0 x.f3 x.f2.toNat left x.f1 x.f2).1, (go most x.f0 x.f3 x.f2.toNat left x.f1 x.f2).2)
def plan (most : Int) : Int → List S26 → List S34
  | _, [] => []
  | left, x :: l => (part most left x).1 ++ plan most (part most left x).2 l
theorem go_left (most id : Int) (e : Bool) (d : Nat) : ∀ left lft pend : Int, Rg left → Rg (go most id e d left lft pend).2 := by
  induction d with
  | zero => intro left lft pend h; simpa [go] using h
  | succ d ih =>
    intro left lft pend h
    have a2 := mn_le (mn pend lft) left
    have a3 := mn_le (mn (mn pend lft) left) most
    simp only [go]
    split
    · refine ih _ _ _ ⟨?_, ?_⟩ <;> have := h.1 <;> have := h.2 <;> omega
    · exact h
def Lim (x : S26) : Prop := Rg x.f1 ∧ Rg x.f2 ∧ x.f2 ≤ 4000
theorem rd_at (xs : List S26) (i : Nat) (x : S26) (l : List S26) (h : xs.drop i = x :: l) : rd_T26 xs (i : Int) = x := by
  have : xs[i]? = some x := by
    have := congrArg (·[0]?) h
    simpa using this
  simp [rd_T26, List.getD, this]
theorem l0_ev (most : Int) (xs : List S26) (hL : ∀ x ∈ xs, Lim x) (hlen : xs.length ≤ 1000000) (l : List S26) :
    ∀ (i : Nat) (left : Int) (out : List S34), xs.drop i = l → Rg left → out.length + l.length * 4001 < 5864062014805 →
      Ev (fun k => pump_Plan.l0 k left most out xs (xs.length : Int) (i : Int)) (out ++ plan most left l) := by
  induction l with
  | nil =>
    intro i left out hd _ _
    have hi : xs.length ≤ i := by
      rcases Nat.lt_or_ge i xs.length with h | h
      · have := List.length_drop (i := i) (l := xs); rw [hd] at this; simp at this; omega
      · exact h
    refine Ev.step (fun k => pump_Plan.l0.eq_2 ..) ?_
    refine Ev_neg (by omega) ?_
    exact Ev_some (by simp [plan])
  | cons x l ih =>
    intro i left out hd hl ho
    have hi : i < xs.length := by
      rcases Nat.lt_or_ge i xs.length with h | h
      · exact h
      · rw [List.drop_eq_nil_of_le h] at hd; cases hd
    have hx : x ∈ xs := by
      have : x ∈ xs.drop i := by rw [hd]; simp
      exact List.mem_of_mem_drop this
    obtain ⟨r1, r2, r3⟩ := hL x hx
    have hg := go_len most x.f0 x.f3 x.f2.toNat left x.f1 x.f2
    have hnext : xs.drop (i + 1) = l := by
      have := congrArg (·.drop 1) hd
      simpa [Nat.add_comm] using this
    simp only [List.length_cons] at ho
    refine Ev.step (fun k => pump_Plan.l0.eq_2 ..) ?_
    refine Ev_pos (by omega) (Ev_pos (by omega) (Ev_pos (by omega) ?_))
    rw [rd_at xs i x l hd]
    have tail : ∀ pre : List S34, pre = (if x.f2 = 0 ∧ x.f3 = true then [⟨x.f0, 0, true⟩] else []) → Ev (fun k => pump_Plan.j2 k left most (out ++ pre) xs (xs.length : Int) (i : Int) x.f0 x.f1 x.f2 x.f3) (out ++ plan most left (x :: l)) := by
      intro pre hpre
      have hpl : pre.length ≤ 1 := by rw [hpre]; split <;> simp
      refine Ev.step (fun k => pump_Plan.j2.eq_2 ..) ?_
      refine l1_ev most x.f0 x.f3 xs _ _ x.f2.toNat left x.f1 x.f2 _ hl r1 r2 (by omega) (by simp; omega) ?_
      rw [wid (by omega) (by omega)]
      have e1 : (i : Int) + 1 = ((i + 1 : Nat) : Int) := by omega
      rw [e1]
      have := ih (i + 1) (go most x.f0 x.f3 x.f2.toNat left x.f1 x.f2).2 (out ++ pre ++ (go most x.f0 x.f3 x.f2.toNat left x.f1 x.f2).1) hnext (go_left _ _ _ _ _ _ _ hl) (by simp; omega)
      have e2 : out ++ plan most left (x :: l) = out ++ pre ++ (go most x.f0 x.f3 x.f2.toNat left x.f1 x.f2).1 ++ plan most (go most x.f0 x.f3 x.f2.toNat left x.f1 x.f2).2 l := by
        simp [plan, part, hpre, List.append_assoc]
      rw [e2]
      exact this
    have j1 : ∀ q : Bool, q = decide (x.f2 = 0 ∧ x.f3 = true) → Ev (fun k => pump_Plan.j1 k left most out xs (xs.length : Int) (i : Int) q x.f0 x.f1 x.f2 x.f3) (out ++ plan most left (x :: l)) := by
      intro q hq
      refine Ev.step (fun k => pump_Plan.j1.eq_2 ..) ?_
      cases q with
      | true =>
        have := of_decide_eq_true hq.symm
        exact Ev_pos rfl (Ev_pos (by omega) (tail _ (by rw [if_pos this])))
      | false =>
        have := of_decide_eq_false hq.symm
        have t := tail [] (by rw [if_neg this])
        rw [List.append_nil] at t
        exact Ev_neg (by simp) t
    by_cases h0 : x.f2 = 0
    · exact Ev_pos h0 (j1 _ (by simp [h0]))
    · exact Ev_neg h0 (j1 _ (by simp [h0]))
theorem plan_ev (left most : Int) (xs : List S26) (hL : ∀ x ∈ xs, Lim x) (hlen : xs.length ≤ 1000000) (hl : Rg left) : Ev (fun k => pump_Plan.f k left most xs) (plan most left xs) := by
  have := l0_ev most xs hL hlen xs 0 left [] rfl hl (by simp; omega)
  simpa [pump_Plan.f] using this
/-- How much a part sends. -/
def much (most left lft pend : Int) : Int := if most < 1 then 0 else max (min (min pend lft) left) 0
theorem go_sum (most id : Int) (e : Bool) (d : Nat) : ∀ left lft pend : Int, pend ≤ d → sumN (go most id e d left lft pend).1 = much most left lft pend ∧ (go most id e d left lft pend).2 = left - much most left lft pend := by
  induction d with
  | zero =>
    intro left lft pend h
    simp only [go, sumN, much, List.map_nil, List.sum_nil]
    split <;> omega
  | succ d ih =>
    intro left lft pend h
    have a1 := mn_le pend lft
    have a2 := mn_le (mn pend lft) left
    have a3 := mn_le (mn (mn pend lft) left) most
    have := ih (left - mn (mn (mn pend lft) left) most) (lft - mn (mn (mn pend lft) left) most) (pend - mn (mn (mn pend lft) left) most)
    simp only [go]
    split
    · have := this (by omega)
      simp only [sumN, List.map_cons, List.sum_cons] at *
      rw [this.1, this.2]
      unfold much
      split <;> omega
    · simp only [sumN, much, List.map_nil, List.sum_nil]
      split <;> omega
theorem go_pos (most id : Int) (e : Bool) (d : Nat) : ∀ left lft pend : Int, ∀ s ∈ (go most id e d left lft pend).1, s.f0 = id ∧ 0 < s.f1 ∧ s.f1 ≤ most := by
  induction d with
  | zero => intro left lft pend s hs; simp [go] at hs
  | succ d ih =>
    intro left lft pend s hs
    have a3 := mn_le (mn (mn pend lft) left) most
    simp only [go] at hs
    split at hs
    · rcases List.mem_cons.1 hs with rfl | hs
      · exact ⟨rfl, by assumption, a3.2.1⟩
      · exact ih _ _ _ s hs
    · cases hs
theorem sum_run (l : List S34) (hb : ∀ s ∈ l, 0 ≤ s.f1 ∧ s.f1 ≤ 100000) (hl : l.length ≤ 1000000) (d : Nat) : ∀ (i : Nat) (acc : Int), l.length - i = d → 0 ≤ acc → acc ≤ 100000 * i → Ev (fun k => pump_Sum.l0 k acc l (l.length : Int) (i : Int)) (acc + sumN (l.drop i)) := by
  induction d with
  | zero =>
    intro i acc hd _ _
    refine Ev.step (fun k => pump_Sum.l0.eq_2 ..) ?_
    refine Ev_neg (by omega) ?_
    exact Ev_some (by rw [List.drop_eq_nil_of_le (by omega)]; simp [sumN])
  | succ d ih =>
    intro i acc hd h0 h1
    have hi : i < l.length := by omega
    have hs := hb l[i] (List.getElem_mem hi)
    have e1 : rd_T34 l (i : Int) = l[i] := by simp [rd_T34, List.getD, hi]
    have e2 : sumN (l.drop i) = l[i].f1 + sumN (l.drop (i + 1)) := by rw [List.drop_eq_getElem_cons hi]; simp only [sumN, List.map_cons, List.sum_cons]
    refine Ev.step (fun k => pump_Sum.l0.eq_2 ..) ?_
    refine Ev_pos (by omega) (Ev_pos (by omega) (Ev_pos (by omega) ?_))
    rw [e1, wid (x := acc + l[i].f1) (by omega) (by omega), wid (x := (i : Int) + 1) (by omega) (by omega), e2, ← Int.add_assoc]
    exact ih (i + 1) (acc + l[i].f1) (by omega) (by omega) (by omega)
theorem sum_ev (l : List S34) (hb : ∀ s ∈ l, 0 ≤ s.f1 ∧ s.f1 ≤ 100000) (hl : l.length ≤ 1000000) : Ev (fun k => pump_Sum.f k l) (sumN l) := by
  have := sum_run l hb hl l.length 0 0 (by omega) (by omega) (by omega)
  simpa [pump_Sum.f] using this
theorem alive_ev : Ev (fun k => bywashlaw16_alive.f k) true := by
  unfold bywashlaw16_alive.f
  have hb : plan 64 100 [⟨1, 100, 80, true⟩] = [⟨1, 64, false⟩, ⟨1, 16, true⟩] := by simp [plan, part, go, mn]
  have h := plan_ev 100 64 [⟨1, 100, 80, true⟩] (by intro x hx; simp at hx; subst hx; simp [Lim, Rg]) (by simp) (by simp [Rg])
  rw [hb] at h
  refine Ev.bind h ?_
  refine Ev_pos rfl (Ev_pos (by simp) (Ev_pos rfl (Ev_pos (by simp) (Ev_pos rfl ?_))))
  exact Ev.bind (sum_ev _ (by intro s hs; simp at hs; rcases hs with rfl | rfl <;> simp) (by simp)) (Ev_some rfl)
theorem go_small (most id : Int) (e : Bool) (d : Nat) : ∀ left lft pend : Int, ∀ s ∈ (go most id e d left lft pend).1, 0 < s.f1 ∧ s.f1 ≤ pend := by
  induction d with
  | zero => intro left lft pend s hs; simp [go] at hs
  | succ d ih =>
    intro left lft pend s hs
    have a1 := mn_le pend lft
    have a2 := mn_le (mn pend lft) left
    have a3 := mn_le (mn (mn pend lft) left) most
    simp only [go] at hs
    split at hs
    · rcases List.mem_cons.1 hs with rfl | hs
      · exact ⟨by assumption, by show mn (mn (mn pend lft) left) most ≤ pend; omega⟩
      · have := ih _ _ _ s hs
        omega
    · cases hs
theorem plan_small (most : Int) (l : List S26) : ∀ left : Int, (∀ x ∈ l, Lim x) → ∀ s ∈ plan most left l, 0 ≤ s.f1 ∧ s.f1 ≤ 100000 := by
  induction l with
  | nil => intro left _ s hs; cases hs
  | cons x l ih =>
    intro left hL s hs
    have hx := hL x (by simp)
    simp only [plan, part, List.mem_append] at hs
    rcases hs with (hs | hs) | hs
    · split at hs
      · simp at hs; subst hs; simp
      · cases hs
    · have := go_small most x.f0 x.f3 _ left x.f1 x.f2 s hs
      have := hx.2.2
      omega
    · exact ih _ (fun y hy => hL y (by simp [hy])) s hs
theorem plan_len (most : Int) (l : List S26) : ∀ left : Int, (∀ x ∈ l, Lim x) → (plan most left l).length ≤ l.length * 4001 := by
  induction l with
  | nil => intro left _; simp [plan]
  | cons x l ih =>
    intro left hL
    have hx := hL x (by simp)
    have h1 := go_len most x.f0 x.f3 x.f2.toNat left x.f1 x.f2
    have h2 := ih (part most left x).2 (fun y hy => hL y (by simp [hy]))
    have h3 : (if x.f2 = 0 ∧ x.f3 = true then [(⟨x.f0, 0, true⟩ : S34)] else []).length ≤ 1 := by split <;> simp
    have := hx.2.2
    simp only [plan, part, List.length_append, List.length_cons] at *
    omega
theorem sumN_append (a b : List S34) : sumN (a ++ b) = sumN a + sumN b := by simp [sumN]
theorem sumN_part (most left : Int) (x : S26) : sumN (part most left x).1 = much most left x.f1 x.f2 ∧ (part most left x).2 = left - much most left x.f1 x.f2 := by
  have h := go_sum most x.f0 x.f3 x.f2.toNat left x.f1 x.f2 (by omega)
  unfold part
  rw [sumN_append, h.1, h.2]
  refine ⟨?_, rfl⟩
  split <;> simp [sumN]

theorem light_l0 (xs : List S26) (hlen : xs.length ≤ 4398046511104) (d : Nat) : ∀ i : Nat, xs.length - i = d → ∃ b : Bool, Ev (fun k => bywashlaw16_Light.l0 k xs xs (xs.length : Int) (i : Int)) b ∧ (b = true → xs.length ≤ 30 ∧ ∀ x ∈ xs.drop i, x.f2 ≤ 4000) := by
  induction d with
  | zero =>
    intro i hd
    refine ⟨decide ((xs.length : Int) ≤ 30), ?_, fun h => ⟨by have := of_decide_eq_true h; omega, by rw [List.drop_eq_nil_of_le (by omega)]; simp⟩⟩
    refine Ev.step (fun k => bywashlaw16_Light.l0.eq_2 ..) ?_
    exact Ev_neg (by omega) (Ev_some rfl)
  | succ d ih =>
    intro i hd
    have hi : i < xs.length := by omega
    have e1 : rd_T26 xs (i : Int) = xs[i] := by simp [rd_T26, List.getD, hi]
    by_cases h4 : xs[i].f2 > 4000
    · refine ⟨false, ?_, by simp⟩
      refine Ev.step (fun k => bywashlaw16_Light.l0.eq_2 ..) ?_
      refine Ev_pos (by omega) (Ev_pos (by omega) (Ev_pos (by omega) ?_))
      rw [e1]
      exact Ev_pos h4 (Ev_some rfl)
    · obtain ⟨b, hb, h⟩ := ih (i + 1) (by omega)
      refine ⟨b, ?_, fun hb => ⟨(h hb).1, ?_⟩⟩
      · refine Ev.step (fun k => bywashlaw16_Light.l0.eq_2 ..) ?_
        refine Ev_pos (by omega) (Ev_pos (by omega) (Ev_pos (by omega) ?_))
        rw [e1]
        refine Ev_neg h4 ?_
        rw [wid (by omega) (by omega)]
        exact hb
      · rw [List.drop_eq_getElem_cons hi]
        intro x hx
        rcases List.mem_cons.1 hx with rfl | hx
        · omega
        · exact (h hb).2 x hx
theorem light_ev (a : Int) (xs : List S26) (hlen : xs.length ≤ 4398046511104) : ∃ b : Bool, Ev (fun k => bywashlaw16_Light.f k a xs) b ∧ (b = true → xs.length ≤ 30 ∧ ∀ x ∈ xs, x.f2 ≤ 4000) := by
  have := light_l0 xs hlen xs.length 0 (by omega)
  simpa [bywashlaw16_Light.f] using this

def c28 (x : S26) : S28 := ⟨x.f0, x.f1, x.f2, x.f3⟩
def c35 (s : S34) : S35 := ⟨s.f0, s.f1, s.f2⟩
theorem rd28_at (xs : List S26) (i : Nat) (x : S26) (l : List S26) (h : xs.drop i = x :: l) : rd_T28 (xs.map c28) (i : Int) = c28 x := by
  have : xs[i]? = some x := by
    have := congrArg (·[0]?) h
    simpa using this
  simp [rd_T28, List.getD, this]
theorem ref_l1_ev {r : List S35} (most id : Int) (e : Bool) (xs : List S28) (x8 : Int) (d : Nat) :
    ∀ (left lft pend : Int) (out : List S35), Rg left → Rg lft → Rg pend → pend ≤ d → out.length + d < 5864062014805 →
      Ev (fun k => bywashref1_Plan.l0 k (go most id e d left lft pend).2 most xs (out ++ (go most id e d left lft pend).1.map c35) (wrap64 (x8 + 1))) r →
      Ev (fun k => bywashref1_Plan.l1 k left most xs out x8 id lft pend e) r := by
  induction d with
  | zero =>
    intro left lft pend out h1 h2 h3 h4 h5 h
    have a1 := mn_le pend lft
    have a2 := mn_le (mn pend lft) left
    have a3 := mn_le (mn (mn pend lft) left) most
    refine Ev.step (fun k => bywashref1_Plan.l1.eq_2 ..) ?_
    refine Ev_pos (by omega) ?_
    simpa [go] using h
  | succ d ih =>
    intro left lft pend out h1 h2 h3 h4 h5 h
    have a1 := mn_le pend lft
    have a2 := mn_le (mn pend lft) left
    have a3 := mn_le (mn (mn pend lft) left) most
    obtain ⟨h1, h1'⟩ := h1
    obtain ⟨h2, h2'⟩ := h2
    obtain ⟨h3, h3'⟩ := h3
    refine Ev.step (fun k => bywashref1_Plan.l1.eq_2 ..) ?_
    by_cases hn : mn (mn (mn pend lft) left) most > 0
    · simp only [go, if_pos hn] at h
      generalize mn (mn (mn pend lft) left) most = n at *
      refine Ev_neg (by omega) ?_
      rw [wid (x := pend - n) (by omega) (by omega), wid (x := lft - n) (by omega) (by omega), wid (x := left - n) (by omega) (by omega)]
      have key : ∀ q : Bool, q = (decide (pend - n = 0) && e) → Ev (fun k => bywashref1_Plan.l1 k (left - n) most xs (out ++ [⟨id, n, q⟩]) x8 id (lft - n) (pend - n) e) r := by
        intro q hq
        refine ih (left - n) (lft - n) (pend - n) _ ⟨by omega, by omega⟩ ⟨by omega, by omega⟩ ⟨by omega, by omega⟩ (by omega) (by simp; omega) ?_
        rw [hq, List.append_assoc, List.singleton_append]
        exact h
      cases e with
      | true => exact Ev_pos rfl (Ev_pos (by omega) (key _ (by rw [Bool.and_true]; rfl)))
      | false => exact Ev_neg (by simp) (Ev_pos (by omega) (key _ (by simp)))
    · simp only [go, if_neg hn] at h
      refine Ev_pos (by omega) ?_
      simpa using h
theorem ref_l0_ev (most : Int) (xs : List S26) (hL : ∀ x ∈ xs, Lim x) (hlen : xs.length ≤ 1000000) (l : List S26) :
    ∀ (i : Nat) (left : Int) (out : List S35), xs.drop i = l → Rg left → out.length + l.length * 4001 < 5864062014805 →
      Ev (fun k => bywashref1_Plan.l0 k left most (xs.map c28) out (i : Int)) (out ++ (plan most left l).map c35) := by
  induction l with
  | nil =>
    intro i left out hi hl ho
    have : xs.length ≤ i := by
      have := congrArg List.length hi
      simp at this; omega
    refine Ev.step (fun k => bywashref1_Plan.l0.eq_2 ..) ?_
    exact Ev_neg (by simp; omega) (Ev_some (by simp [plan]))
  | cons x l ih =>
    intro i left out hi hl ho
    have hlt : i < xs.length := by
      have := congrArg List.length hi
      simp at this; omega
    have hx : x ∈ xs := by
      have : x ∈ xs.drop i := by rw [hi]; simp
      exact List.mem_of_mem_drop this
    have hd : xs.drop (i + 1) = l := by
      have := congrArg List.tail hi
      simpa using this
    obtain ⟨r1, r2, r3⟩ := hL x hx
    have g1 := go_len most x.f0 x.f3 x.f2.toNat left x.f1 x.f2
    simp only [List.length_cons] at ho
    refine Ev.step (fun k => bywashref1_Plan.l0.eq_2 ..) ?_
    refine Ev_pos (by simp; omega) (Ev_pos (by omega) ?_)
    rw [rd28_at xs i x l hi]
    have w1 : wrap64 ((i : Int) + 1) = ((i + 1 : Nat) : Int) := by rw [wid (by omega) (by omega)]; omega
    have hg := go_sum most x.f0 x.f3 x.f2.toNat left x.f1 x.f2 (by omega)
    have hgl : Rg (go most x.f0 x.f3 x.f2.toNat left x.f1 x.f2).2 := by
      rw [hg.2]; unfold much
      obtain ⟨q1, q2⟩ := hl
      obtain ⟨q3, q4⟩ := r2
      split
      · exact ⟨by omega, by omega⟩
      · constructor <;> omega
    have fin : ¬ (x.f3 = true ∧ x.f2 = 0) → Ev (fun k => bywashref1_Plan.l1 k left most (xs.map c28) out (i : Int) x.f0 x.f1 x.f2 x.f3) (out ++ (plan most left (x :: l)).map c35) := by
      intro hne
      refine ref_l1_ev most x.f0 x.f3 (xs.map c28) (i : Int) x.f2.toNat left x.f1 x.f2 out hl r1 r2 (by omega) (by omega) ?_
      rw [w1]
      have := ih (i + 1) (go most x.f0 x.f3 x.f2.toNat left x.f1 x.f2).2 (out ++ (go most x.f0 x.f3 x.f2.toNat left x.f1 x.f2).1.map c35) hd hgl (by simp; omega)
      have e : (plan most left (x :: l)).map c35 = (go most x.f0 x.f3 x.f2.toNat left x.f1 x.f2).1.map c35 ++ (plan most (go most x.f0 x.f3 x.f2.toNat left x.f1 x.f2).2 l).map c35 := by
        simp only [plan, part]
        rw [if_neg (fun h => hne ⟨h.2, h.1⟩)]
        simp
      rw [e, ← List.append_assoc]
      exact this
    have done : (x.f3 = true ∧ x.f2 = 0) → Ev (fun k => bywashref1_Plan.l0 k left most (xs.map c28) (out ++ [⟨x.f0, 0, true⟩]) ((i + 1 : Nat) : Int)) (out ++ (plan most left (x :: l)).map c35) := by
      intro he
      have z : x.f2.toNat = 0 := by omega
      have := ih (i + 1) left (out ++ [⟨x.f0, 0, true⟩]) hd hl (by simp; omega)
      have e : (plan most left (x :: l)).map c35 = [⟨x.f0, 0, true⟩] ++ (plan most left l).map c35 := by
        simp only [plan, part]
        rw [if_pos ⟨he.2, he.1⟩, z]
        simp [go, c35]
      rw [e, ← List.append_assoc]
      exact this
    have j1 : ∀ q : Bool, q = decide (x.f3 = true ∧ x.f2 = 0) → Ev (fun k => bywashref1_Plan.j1 k left most (xs.map c28) out (i : Int) q x.f0 x.f1 x.f2 x.f3) (out ++ (plan most left (x :: l)).map c35) := by
      intro q hq
      refine Ev.step (fun k => bywashref1_Plan.j1.eq_2 ..) ?_
      by_cases he : x.f3 = true ∧ x.f2 = 0
      · refine Ev_pos (by rw [hq]; exact decide_eq_true he) (Ev_pos (by omega) ?_)
        rw [w1]; exact done he
      · exact Ev_neg (by rw [hq]; simpa using he) (fin he)
    refine Ev_ite (fun h3 => ?_) fun h3 => ?_
    · refine j1 _ ?_
      show (x.f2 == 0) = _
      by_cases h0 : x.f2 = 0
      · rw [decide_eq_true ⟨h3, h0⟩]; simp [h0]
      · rw [decide_eq_false (fun h => h0 h.2)]; simp [h0]
    · exact j1 false (decide_eq_false (fun h => h3 h.1)).symm
theorem ref_plan_ev (left most : Int) (xs : List S26) (hL : ∀ x ∈ xs, Lim x) (hlen : xs.length ≤ 1000000) (hl : Rg left) : Ev (fun k => bywashref1_Plan.f k left most (xs.map c28)) ((plan most left xs).map c35) := by
  have := ref_l0_ev most xs hL hlen xs 0 left [] rfl hl (by simp; omega)
  simpa [bywashref1_Plan.f] using this
theorem rd34_get (l : List S34) (i : Nat) (h : i < l.length) : rd_T34 l (i : Int) = l[i] := by simp [rd_T34, List.getD, h]
theorem rd35_get (l : List S34) (i : Nat) (h : i < l.length) : rd_T35 (l.map c35) (i : Int) = c35 l[i] := by simp [rd_T35, List.getD, h]
theorem rd26_get (l : List S26) (i : Nat) (h : i < l.length) : rd_T26 l (i : Int) = l[i] := by simp [rd_T26, List.getD, h]
theorem wI (i : Nat) (h : i ≤ 1000000000) : wrap64 ((i : Int) + 1) = ((i + 1 : Nat) : Int) := by rw [wid (by omega) (by omega)]; omega
/-- The parts and the mark behind them. -/
def marked (xs : List S26) : List S26 := ([] ++ xs) ++ [⟨(-77), 0, 0, false⟩]
theorem l4_ev (xs : List S26) (hlen : xs.length ≤ 30) (x11 : List S35) (x12 : List S34) (h12 : (x12.length : Int) = x11.length + 1) (h11 : x11.length ≤ 1000000) (d : Nat) :
    ∀ i : Nat, xs.length - i = d → Ev (fun k => bywashlaw16_PumpTells.l4 k xs ((marked xs).take xs.length) x11 x12 (((marked xs).take xs.length).length : Int) (i : Int) (marked xs)) true := by
  have hm : (marked xs).take xs.length = xs := by simp [marked]
  rw [hm]
  induction d with
  | zero =>
    intro i hd
    refine Ev.step (fun k => bywashlaw16_PumpTells.l4.eq_2 ..) ?_
    rw [wI xs.length (by omega)]
    have ht : (marked xs).take (((xs.length + 1 : Nat) : Int)).toNat = marked xs := by
      rw [Int.toNat_natCast, List.take_of_length_le (by simp [marked])]
    refine Ev_neg (by omega) (Ev_pos (by omega) (Ev_pos (by simp [marked]) ?_))
    rw [ht]
    refine Ev_bind0 rfl (Ev_pos (by omega) (Ev_pos (by simp [marked]; omega) (Ev_pos ?_ (Ev_some ?_))))
    · rw [rd26_get _ _ (by simp [marked])]; simp [marked]
    · rw [wid (by omega) (by omega), h12]; simp
  | succ d ih =>
    intro i hd
    refine Ev.step (fun k => bywashlaw16_PumpTells.l4.eq_2 ..) ?_
    rw [wI i (by omega)]
    refine Ev_pos (by omega) (Ev_pos (by omega) (Ev_pos (by omega) (Ev_pos (by omega) (Ev_neg (by simp) (ih (i + 1) (by omega))))))
theorem l3_ev (xs : List S26) (hlen : xs.length ≤ 30) (p : List S34) (hp : p.length ≤ 1000000) (x12 : List S34) (h12 : x12.length = p.length + 1) (d : Nat) :
    ∀ i : Nat, p.length - i = d → Ev (fun k => bywashlaw16_PumpTells.l3 k xs ((marked xs).take xs.length) (p.map c35) x12 p (p.length : Int) (i : Int) (marked xs)) true := by
  induction d with
  | zero =>
    intro i hd
    refine Ev.step (fun k => bywashlaw16_PumpTells.l3.eq_2 ..) ?_
    exact Ev_neg (by omega) (by simpa using l4_ev xs hlen (p.map c35) x12 (by simp; omega) (by simpa using hp) xs.length 0 (by omega))
  | succ d ih =>
    intro i hd
    refine Ev.step (fun k => bywashlaw16_PumpTells.l3.eq_2 ..) ?_
    rw [wI i (by omega)]
    refine Ev_pos (by omega) (Ev_pos (by omega) (Ev_pos (by omega) (Ev_pos (by simp; omega) (Ev_pos ?_ (ih (i + 1) (by omega))))))
    rw [rd34_get p i (by omega), rd35_get p i (by omega)]; rfl
theorem l2_ev (xs : List S26) (hlen : xs.length ≤ 30) (p : List S34) (hp : p.length ≤ 1000000) (d : Nat) :
    ∀ (i : Nat) (x12 : List S34), x12.length = p.length → p.length - i = d → Ev (fun k => bywashlaw16_PumpTells.l2 k xs ((marked xs).take xs.length) (p.map c35) x12 p (p.length : Int) (i : Int) (marked xs)) true := by
  induction d with
  | zero =>
    intro i x12 hx hd
    refine Ev.step (fun k => bywashlaw16_PumpTells.l2.eq_2 ..) ?_
    exact Ev_neg (by omega) (Ev_pos (by omega) (by simpa using l3_ev xs hlen p hp (x12 ++ [(⟨(-1), 0, false⟩ : S34)]) (by simp; omega) p.length 0 (by omega)))
  | succ d ih =>
    intro i x12 hx hd
    refine Ev.step (fun k => bywashlaw16_PumpTells.l2.eq_2 ..) ?_
    rw [wI i (by omega)]
    exact Ev_pos (by omega) (Ev_pos (by omega) (Ev_pos (by omega) (ih (i + 1) _ (by simpa using hx) (by omega))))
theorem sumN_take (p : List S34) (i : Nat) (h : i < p.length) : sumN (p.take (i + 1)) = sumN (p.take i) + p[i].f1 := by
  rw [List.take_succ_eq_append_getElem h, sumN_append]; simp [sumN]
theorem sumN_bound (l : List S34) (hb : ∀ s ∈ l, 0 ≤ s.f1 ∧ s.f1 ≤ 100000) : 0 ≤ sumN l ∧ sumN l ≤ 100000 * l.length := by
  induction l with
  | nil => simp [sumN]
  | cons x l ih =>
    have h1 := hb x (by simp)
    have h2 := ih (fun s hs => hb s (by simp [hs]))
    simp only [sumN, List.map_cons, List.sum_cons, List.length_cons] at *
    omega
theorem l1_ev' (xs : List S26) (hlen : xs.length ≤ 30) (p : List S34) (hp : p.length ≤ 1000000) (hb : ∀ s ∈ p, 0 ≤ s.f1 ∧ s.f1 ≤ 100000) (d : Nat) :
    ∀ i : Nat, i ≤ p.length → p.length - i = d → Ev (fun k => bywashlaw16_PumpTells.l1 k xs ((marked xs).take xs.length) (p.map c35) p p (sumN (p.take i)) (p.length : Int) (i : Int) (marked xs)) true := by
  induction d with
  | zero =>
    intro i hi hd
    refine Ev.step (fun k => bywashlaw16_PumpTells.l1.eq_2 ..) ?_
    rw [show p.take i = p from List.take_of_length_le (by omega)]
    exact Ev_neg (by omega) (Ev.bind (sum_ev p hb hp) (Ev_pos rfl (by simpa using l2_ev xs hlen p hp p.length 0 p rfl (by omega))))
  | succ d ih =>
    intro i hi hd
    have hlt : i < p.length := by omega
    refine Ev.step (fun k => bywashlaw16_PumpTells.l1.eq_2 ..) ?_
    have h34 := rd34_get p i hlt
    have h35 := rd35_get p i hlt
    have b1 := sumN_bound (p.take i) (fun s hs => hb s (List.mem_of_mem_take hs))
    have b2 := hb p[i] (List.getElem_mem hlt)
    have b3 : (p.take i).length ≤ 1000000 := by rw [List.length_take]; omega
    refine Ev_pos (by omega) (Ev_pos (by omega) (Ev_pos (by omega) (Ev_pos (by simp; omega) (Ev_neg ?_ (Ev_pos (by omega) ?_)))))
    · rw [h34, h35]; simp [c35]
    · refine Ev.step (fun k => bywashlaw16_PumpTells.j4.eq_2 ..) ?_
      refine Ev_neg (by simp) (Ev_pos (by omega) (Ev_pos (by omega) ?_))
      rw [wI i (by omega), h34, wid (by omega) (by omega), ← sumN_take p i hlt]
      exact ih (i + 1) (by omega) (by omega)
theorem tells_l0 (left most : Int) (xs : List S26) (hlen : xs.length ≤ 30) (hL : ∀ x ∈ xs, Lim x) (hl : Rg left) (d : Nat) :
    ∀ i : Nat, i ≤ xs.length → xs.length - i = d → Ev (fun k => bywashlaw16_PumpTells.l0 k left most xs ((marked xs).take xs.length) ((xs.take i).map c28) xs (xs.length : Int) (i : Int) (marked xs)) true := by
  induction d with
  | zero =>
    intro i hi hd
    refine Ev.step (fun k => bywashlaw16_PumpTells.l0.eq_2 ..) ?_
    rw [show xs.take i = xs from List.take_of_length_le (by omega)]
    have hm : (marked xs).take xs.length = xs := by simp [marked]
    have hP := plan_ev left most xs hL (by omega) hl
    have hlen2 := plan_len most xs left hL
    have hsm := plan_small most xs left hL
    refine Ev_neg (by omega) (Ev.bind (ref_plan_ev left most xs hL (by omega) hl) (Ev.bind (by rw [hm]; exact hP) (Ev.bind (by rw [hm]; exact hP) (Ev_pos (by simp) ?_))))
    refine Ev.step (fun k => bywashlaw16_PumpTells.j2.eq_2 ..) ?_
    refine Ev_neg (by simp) ?_
    have := l1_ev' xs hlen (plan most left xs) (by omega) hsm (plan most left xs).length 0 (by omega) (by omega)
    simpa [sumN] using this
  | succ d ih =>
    intro i hi hd
    have hlt : i < xs.length := by omega
    refine Ev.step (fun k => bywashlaw16_PumpTells.l0.eq_2 ..) ?_
    rw [wI i (by omega), rd26_get xs i hlt]
    refine Ev_pos (by omega) (Ev_pos (by omega) (Ev_pos (by omega) (Ev_pos (by rw [List.length_map, List.length_take]; omega) ?_)))
    have e : (xs.take i).map c28 ++ [(⟨xs[i].f0, xs[i].f1, xs[i].f2, xs[i].f3⟩ : S28)] = (xs.take (i + 1)).map c28 := by
      rw [List.take_succ_eq_append_getElem hlt, List.map_append]; rfl
    rw [e]
    exact ih (i + 1) (by omega) (by omega)
theorem PumpTells : StaPumpTells.Pure := by
  intro left most l h0 h1 h2
  obtain ⟨hl1, hl2, hl3⟩ := h2
  have r0 : Rg left := wf_range h0
  have hLlen : l.length ≤ 4398046511104 := by omega
  suffices h : Ev (fun k => bywashlaw16_PumpTells.f k left most l) true by
    obtain ⟨K, hK⟩ := h
    exact ⟨K, hK K (Nat.le_refl _)⟩
  unfold bywashlaw16_PumpTells.f
  obtain ⟨b, hb, hb'⟩ := light_ev most l hLlen
  refine Ev.bind hb ?_
  cases b with
  | false =>
    refine Ev_neg (by simp) (Ev.step (fun k => bywashlaw16_PumpTells.j0.eq_2 ..) (Ev_pos rfl ?_))
    exact Ev.bind alive_ev (Ev_some rfl)
  | true =>
    obtain ⟨q1, q2⟩ := hb' rfl
    have hL : ∀ x ∈ l, Lim x := fun x hx => ⟨wf_range (hl3 x hx).2.1, wf_range (hl3 x hx).2.2.1, q2 x hx⟩
    refine Ev_pos rfl (Ev.bind alive_ev (Ev.step (fun k => bywashlaw16_PumpTells.j0.eq_2 ..) (Ev_neg (by simp) (Ev_pos (by simp; omega) (Ev_bind0 rfl (Ev_pos (by simp; omega) (Ev_bind0 rfl (Ev_pos (by omega) (Ev_pos (by simp; omega) ?_)))))))))
    have := tells_l0 left most l q1 hL r0 l.length 0 (by omega) (by omega)
    simpa [marked] using this

end Go.Proofs.Ytndchendimbfnaa.Pure
