/- Of one part alone so much goes as all windows let, in frames as great as may be. Conditions: those of the statement itself. -/
import Derived.Test.YtjjdhaphgnldaaaPPumpOnex0
import Derived.Test.YtjjdhaphgnldaaaPPumpOnex1
import Derived.Test.YtjjdhaphgnldaaaPPumpOnex2
import Derived.Test.YtjjdhaphgnldaaaPPumpOnex3
import Derived.Test.YtjjdhaphgnldaaaStaPumpOne
import Derived.Test.YtjjdhaphgnldaaaAid
namespace Go.Proofs.Ytjjdhaphgnldaaa.Pure
open Go.RowKit Go.Proofs.YtjjdhaphgnldaaaW.PrintWords Go.Proofs.YtjjdhaphgnldaaaW.PrintLast Go.Proofs.YtjjdhaphgnldaaaW.PrintMore Go.Proofs.Ytjjdhaphgnldaaa.Aid Go.Proofs.Ytjjdhaphgnldaaa.PPumpOne Go.Proofs.Ytjjdhaphgnldaaa.StaPumpOne
set_option linter.unusedVariables false
set_option linter.unusedSimpArgs false

def sumN (l : List S34) : Int := (l.map (·.f1)).sum
/-- What a part sends: its slices, and what the connection may send behind them. -/
def go (most id : Int) (e : Bool) : Nat → Int → Int → Int → List S34 × Int
  | 0, left, _, _ => ([], left)
  | d + 1, left, lft, pend =>
    let n := mn (mn (mn pend lft) left) most
    if n > 0 then (⟨id, n, decide (pend - n = 0) && e⟩ :: (go most id e d (left - n) (lft - n) (pend - n)).1, (go most id e d (left - n) (lft - n) (pend - n)).2) else ([], left)
theorem go_len (most id : Int) (e : Bool) (d : Nat) : ∀ left lft pend : Int, (go most id e d left lft pend).1.length ≤ d := by
  induction d with
  | zero => intro left lft pend; simp [go]
  | succ d ih =>
    intro left lft pend
    simp only [go]
    split
    · simpa using ih _ _ _
    · simp
def Rg (x : Int) : Prop := -9223372036854775808 ≤ x ∧ x ≤ 9223372036854775807
theorem l1_ev {r : List S34} (most id : Int) (e : Bool) (xs : List S26) (x12 x13 : Int) (d : Nat) :
    ∀ (left lft pend : Int) (out : List S34), Rg left → Rg lft → Rg pend → pend ≤ d → out.length + d < 5864062014805 →
      Ev (fun k => pump_Plan.l0 k (go most id e d left lft pend).2 most (out ++ (go most id e d left lft pend).1) xs x12 (wrap64 (x13 + 1))) r →
      Ev (fun k => pump_Plan.l1 k left most out (mn (mn (mn pend lft) left) most) xs x12 x13 id lft pend e) r := by
  induction d with
  | zero =>
    intro left lft pend out h1 h2 h3 h4 h5 h
    have a1 := mn_le pend lft
    have a2 := mn_le (mn pend lft) left
    have a3 := mn_le (mn (mn pend lft) left) most
    refine Ev.step (fun k => pump_Plan.l1.eq_2 ..) ?_
    refine Ev_neg (by omega) ?_
    simpa [go] using h
  | succ d ih =>
    intro left lft pend out h1 h2 h3 h4 h5 h
    have a1 := mn_le pend lft
    have a2 := mn_le (mn pend lft) left
    have a3 := mn_le (mn (mn pend lft) left) most
    obtain ⟨h1, h1'⟩ := h1
    obtain ⟨h2, h2'⟩ := h2
    obtain ⟨h3, h3'⟩ := h3
    refine Ev.step (fun k => pump_Plan.l1.eq_2 ..) ?_
    by_cases hn : mn (mn (mn pend lft) left) most > 0
    · simp only [go, if_pos hn] at h
      generalize mn (mn (mn pend lft) left) most = n at *
      refine Ev_pos hn ?_
      rw [wid (x := pend - n) (by omega) (by omega), wid (x := lft - n) (by omega) (by omega), wid (x := left - n) (by omega) (by omega)]
      have key : ∀ q : Bool, q = (decide (pend - n = 0) && e) → Ev (fun k => pump_Plan.l1 k (left - n) most (out ++ [⟨id, n, q⟩]) (mn (mn (mn (pend - n) (lft - n)) (left - n)) most) xs x12 x13 id (lft - n) (pend - n) e) r := by
        intro q hq
        refine ih (left - n) (lft - n) (pend - n) _ ⟨by omega, by omega⟩ ⟨by omega, by omega⟩ ⟨by omega, by omega⟩ (by omega) (by simp; omega) ?_
        rw [hq, List.append_assoc, List.singleton_append]
        exact h
      by_cases hz : pend - n = 0
      · exact Ev_pos hz (Ev_pos (by omega) (key e (by simp [hz])))
      · exact Ev_neg hz (Ev_pos (by omega) (key false (by simp [hz])))
    · simp only [go, if_neg hn] at h
      refine Ev_neg hn ?_
      simpa using h
/-- All slices of a part. -/
def part (most left : Int) (x : S26) : List S34 × Int :=
  ((if x.f2 = 0 ∧ x.f3 = true then [⟨x.f0, 0, true⟩] else []) ++ (go most x.f0 x.f3 x.f2.toNat left x.f1 x.f2).1, (go most x.f0 x.f3 x.f2.toNat left x.f1 x.f2).2)
def plan (most : Int) : Int → List S26 → List S34
  | _, [] => []
  | left, x :: l => (part most left x).1 ++ plan most (part most left x).2 l
theorem go_left (most id : Int) (e : Bool) (d : Nat) : ∀ left lft pend : Int, Rg left → Rg (go most id e d left lft pend).2 := by
  induction d with
  | zero => intro left lft pend h; simpa [go] using h
  | succ d ih =>
    intro left lft pend h
    have a2 := mn_le (mn pend lft) left
    have a3 := mn_le (mn (mn pend lft) left) most
    simp only [go]
    split
    · refine ih _ _ _ ⟨?_, ?_⟩ <;> have := h.1 <;> have := h.2 <;> omega
    · exact h
def Lim (x : S26) : Prop := Rg x.f1 ∧ Rg x.f2 ∧ x.f2 ≤ 4000
theorem rd_at (xs : List S26) (i : Nat) (x : S26) (l : List S26) (h : xs.drop i = x :: l) : rd_T26 xs (i : Int) = x := by
  have : xs[i]? = some x := by
    have := congrArg (·[0]?) h
    simpa using this
  simp [rd_T26, List.getD, this]
theorem l0_ev (most : Int) (xs : List S26) (hL : ∀ x ∈ xs, Lim x) (hlen : xs.length ≤ 1000000) (l : List S26) :
    ∀ (i : Nat) (left : Int) (out : List S34), xs.drop i = l → Rg left → out.length + l.length * 4001 < 5864062014805 →
      Ev (fun k => pump_Plan.l0 k left most out xs (xs.length : Int) (i : Int)) (out ++ plan most left l) := by
  induction l with
  | nil =>
    intro i left out hd _ _
    have hi : xs.length ≤ i := by
      rcases Nat.lt_or_ge i xs.length with h | h
      · have := List.length_drop (i := i) (l := xs); rw [hd] at this; simp at this; omega
      · exact h
    refine Ev.step (fun k => pump_Plan.l0.eq_2 ..) ?_
    refine Ev_neg (by omega) ?_
    exact Ev_some (by simp [plan])
  | cons x l ih =>
    intro i left out hd hl ho
    have hi : i < xs.length := by
      rcases Nat.lt_or_ge i xs.length with h | h
      · exact h
      · rw [List.drop_eq_nil_of_le h] at hd; cases hd
    have hx : x ∈ xs := by
      have : x ∈ xs.drop i := by rw [hd]; simp
      exact List.mem_of_mem_drop this
    obtain ⟨r1, r2, r3⟩ := hL x hx
    have hg := go_len most x.f0 x.f3 x.f2.toNat left x.f1 x.f2
    have hnext : xs.drop (i + 1) = l := by
      have := congrArg (·.drop 1) hd
      simpa [Nat.add_comm] using this
    simp only [List.length_cons] at ho
    refine Ev.step (fun k => pump_Plan.l0.eq_2 ..) ?_
    refine Ev_pos (by omega) (Ev_pos (by omega) (Ev_pos (by omega) ?_))
    rw [rd_at xs i x l hd]
    have tail : ∀ pre : List S34, pre = (if x.f2 = 0 ∧ x.f3 = true then [⟨x.f0, 0, true⟩] else []) → Ev (fun k => pump_Plan.j2 k left most (out ++ pre) xs (xs.length : Int) (i : Int) x.f0 x.f1 x.f2 x.f3) (out ++ plan most left (x :: l)) := by
      intro pre hpre
      have hpl : pre.length ≤ 1 := by rw [hpre]; split <;> simp
      refine Ev.step (fun k => pump_Plan.j2.eq_2 ..) ?_
      refine l1_ev most x.f0 x.f3 xs _ _ x.f2.toNat left x.f1 x.f2 _ hl r1 r2 (by omega) (by simp; omega) ?_
      rw [wid (by omega) (by omega)]
      have e1 : (i : Int) + 1 = ((i + 1 : Nat) : Int) := by omega
      rw [e1]
      have := ih (i + 1) (go most x.f0 x.f3 x.f2.toNat left x.f1 x.f2).2 (out ++ pre ++ (go most x.f0 x.f3 x.f2.toNat left x.f1 x.f2).1) hnext (go_left _ _ _ _ _ _ _ hl) (by simp; omega)
      have e2 : out ++ plan most left (x :: l) = out ++ pre ++ (go most x.f0 x.f3 x.f2.toNat left x.f1 x.f2).1 ++ plan most (go most x.f0 x.f3 x.f2.toNat left x.f1 x.f2).2 l := by
        simp [plan, part, hpre, List.append_assoc]
      rw [e2]
      exact this
    have j1 : ∀ q : Bool, q = decide (x.f2 = 0 ∧ x.f3 = true) → Ev (fun k => pump_Plan.j1 k left most out xs (xs.length : Int) (i : Int) q x.f0 x.f1 x.f2 x.f3) (out ++ plan most left (x :: l)) := by
      intro q hq
      refine Ev.step (fun k => pump_Plan.j1.eq_2 ..) ?_
      cases q with
      | true =>
        have := of_decide_eq_true hq.symm
        exact Ev_pos rfl (Ev_pos (by omega) (tail _ (by rw [if_pos this])))
      | false =>
        have := of_decide_eq_false hq.symm
        have t := tail [] (by rw [if_neg this])
        rw [List.append_nil] at t
        exact Ev_neg (by simp) t
    by_cases h0 : x.f2 = 0
    · exact Ev_pos h0 (j1 _ (by simp [h0]))
    · exact Ev_neg h0 (j1 _ (by simp [h0]))
theorem plan_ev (left most : Int) (xs : List S26) (hL : ∀ x ∈ xs, Lim x) (hlen : xs.length ≤ 1000000) (hl : Rg left) : Ev (fun k => pump_Plan.f k left most xs) (plan most left xs) := by
  have := l0_ev most xs hL hlen xs 0 left [] rfl hl (by simp; omega)
  simpa [pump_Plan.f] using this
/-- How much a part sends. -/
def much (most left lft pend : Int) : Int := if most < 1 then 0 else max (min (min pend lft) left) 0
theorem go_sum (most id : Int) (e : Bool) (d : Nat) : ∀ left lft pend : Int, pend ≤ d → sumN (go most id e d left lft pend).1 = much most left lft pend ∧ (go most id e d left lft pend).2 = left - much most left lft pend := by
  induction d with
  | zero =>
    intro left lft pend h
    simp only [go, sumN, much, List.map_nil, List.sum_nil]
    split <;> omega
  | succ d ih =>
    intro left lft pend h
    have a1 := mn_le pend lft
    have a2 := mn_le (mn pend lft) left
    have a3 := mn_le (mn (mn pend lft) left) most
    have := ih (left - mn (mn (mn pend lft) left) most) (lft - mn (mn (mn pend lft) left) most) (pend - mn (mn (mn pend lft) left) most)
    simp only [go]
    split
    · have := this (by omega)
      simp only [sumN, List.map_cons, List.sum_cons] at *
      rw [this.1, this.2]
      unfold much
      split <;> omega
    · simp only [sumN, much, List.map_nil, List.sum_nil]
      split <;> omega
theorem go_pos (most id : Int) (e : Bool) (d : Nat) : ∀ left lft pend : Int, ∀ s ∈ (go most id e d left lft pend).1, s.f0 = id ∧ 0 < s.f1 ∧ s.f1 ≤ most := by
  induction d with
  | zero => intro left lft pend s hs; simp [go] at hs
  | succ d ih =>
    intro left lft pend s hs
    have a3 := mn_le (mn (mn pend lft) left) most
    simp only [go] at hs
    split at hs
    · rcases List.mem_cons.1 hs with rfl | hs
      · exact ⟨rfl, by assumption, a3.2.1⟩
      · exact ih _ _ _ s hs
    · cases hs
theorem sum_run (l : List S34) (hb : ∀ s ∈ l, 0 ≤ s.f1 ∧ s.f1 ≤ 100000) (hl : l.length ≤ 1000000) (d : Nat) : ∀ (i : Nat) (acc : Int), l.length - i = d → 0 ≤ acc → acc ≤ 100000 * i → Ev (fun k => pump_Sum.l0 k acc l (l.length : Int) (i : Int)) (acc + sumN (l.drop i)) := by
  induction d with
  | zero =>
    intro i acc hd _ _
    refine Ev.step (fun k => pump_Sum.l0.eq_2 ..) ?_
    refine Ev_neg (by omega) ?_
    exact Ev_some (by rw [List.drop_eq_nil_of_le (by omega)]; simp [sumN])
  | succ d ih =>
    intro i acc hd h0 h1
    have hi : i < l.length := by omega
    have hs := hb l[i] (List.getElem_mem hi)
    have e1 : rd_T34 l (i : Int) = l[i] := by simp [rd_T34, List.getD, hi]
    have e2 : sumN (l.drop i) = l[i].f1 + sumN (l.drop (i + 1)) := by rw [List.drop_eq_getElem_cons hi]; simp only [sumN, List.map_cons, List.sum_cons]
    refine Ev.step (fun k => pump_Sum.l0.eq_2 ..) ?_
    refine Ev_pos (by omega) (Ev_pos (by omega) (Ev_pos (by omega) ?_))
    rw [e1, wid (x := acc + l[i].f1) (by omega) (by omega), wid (x := (i : Int) + 1) (by omega) (by omega), e2, ← Int.add_assoc]
    exact ih (i + 1) (acc + l[i].f1) (by omega) (by omega) (by omega)
theorem sum_ev (l : List S34) (hb : ∀ s ∈ l, 0 ≤ s.f1 ∧ s.f1 ≤ 100000) (hl : l.length ≤ 1000000) : Ev (fun k => pump_Sum.f k l) (sumN l) := by
  have := sum_run l hb hl l.length 0 0 (by omega) (by omega) (by omega)
  simpa [pump_Sum.f] using this
theorem alive_ev : Ev (fun k => bywashlaw16_alive.f k) true := by
  unfold bywashlaw16_alive.f
  have hb : plan 64 100 [⟨1, 100, 80, true⟩] = [⟨1, 64, false⟩, ⟨1, 16, true⟩] := by simp [plan, part, go, mn]
  have h := plan_ev 100 64 [⟨1, 100, 80, true⟩] (by intro x hx; simp at hx; subst hx; simp [Lim, Rg]) (by simp) (by simp [Rg])
  rw [hb] at h
  refine Ev.bind h ?_
  refine Ev_pos rfl (Ev_pos (by simp) (Ev_pos rfl (Ev_pos (by simp) (Ev_pos rfl ?_))))
  exact Ev.bind (sum_ev _ (by intro s hs; simp at hs; rcases hs with rfl | rfl <;> simp) (by simp)) (Ev_some rfl)
theorem go_small (most id : Int) (e : Bool) (d : Nat) : ∀ left lft pend : Int, ∀ s ∈ (go most id e d left lft pend).1, 0 < s.f1 ∧ s.f1 ≤ pend := by
  induction d with
  | zero => intro left lft pend s hs; simp [go] at hs
  | succ d ih =>
    intro left lft pend s hs
    have a1 := mn_le pend lft
    have a2 := mn_le (mn pend lft) left
    have a3 := mn_le (mn (mn pend lft) left) most
    simp only [go] at hs
    split at hs
    · rcases List.mem_cons.1 hs with rfl | hs
      · exact ⟨by assumption, by show mn (mn (mn pend lft) left) most ≤ pend; omega⟩
      · have := ih _ _ _ s hs
        omega
    · cases hs
theorem plan_small (most : Int) (l : List S26) : ∀ left : Int, (∀ x ∈ l, Lim x) → ∀ s ∈ plan most left l, 0 ≤ s.f1 ∧ s.f1 ≤ 100000 := by
  induction l with
  | nil => intro left _ s hs; cases hs
  | cons x l ih =>
    intro left hL s hs
    have hx := hL x (by simp)
    simp only [plan, part, List.mem_append] at hs
    rcases hs with (hs | hs) | hs
    · split at hs
      · simp at hs; subst hs; simp
      · cases hs
    · have := go_small most x.f0 x.f3 _ left x.f1 x.f2 s hs
      have := hx.2.2
      omega
    · exact ih _ (fun y hy => hL y (by simp [hy])) s hs
theorem plan_len (most : Int) (l : List S26) : ∀ left : Int, (∀ x ∈ l, Lim x) → (plan most left l).length ≤ l.length * 4001 := by
  induction l with
  | nil => intro left _; simp [plan]
  | cons x l ih =>
    intro left hL
    have hx := hL x (by simp)
    have h1 := go_len most x.f0 x.f3 x.f2.toNat left x.f1 x.f2
    have h2 := ih (part most left x).2 (fun y hy => hL y (by simp [hy]))
    have h3 : (if x.f2 = 0 ∧ x.f3 = true then [(⟨x.f0, 0, true⟩ : S34)] else []).length ≤ 1 := by split <;> simp
    have := hx.2.2
    simp only [plan, part, List.length_append, List.length_cons] at *
    omega
theorem sumN_append (a b : List S34) : sumN (a ++ b) = sumN a + sumN b := by simp [sumN]
theorem sumN_part (most left : Int) (x : S26) : sumN (part most left x).1 = much most left x.f1 x.f2 ∧ (part most left x).2 = left - much most left x.f1 x.f2 := by
  have h := go_sum most x.f0 x.f3 x.f2.toNat left x.f1 x.f2 (by omega)
  unfold part
  rw [sumN_append, h.1, h.2]
  refine ⟨?_, rfl⟩
  split <;> simp [sumN]

theorem up_div (M most : Int) (hm : 1 ≤ most) : (M + most - 1) / most = (M - 1) / most + 1 := by
  have := Int.add_mul_ediv_right (M - 1) 1 (show most ≠ 0 by omega)
  rw [show M + most - 1 = M - 1 + 1 * most by omega, this]
theorem go_shape (most id : Int) (hm : 1 ≤ most) (e : Bool) (d : Nat) : ∀ left lft pend : Int, pend ≤ d →
    ((go most id e d left lft pend).1.length : Int) = (max (min (min left lft) pend) 0 + most - 1) / most ∧
    ∀ (i : Nat) (h : i < (go most id e d left lft pend).1.length), (go most id e d left lft pend).1[i].f0 = id ∧
      (i + 1 < (go most id e d left lft pend).1.length → (go most id e d left lft pend).1[i].f1 = most ∧ (go most id e d left lft pend).1[i].f2 = false) ∧
      (i + 1 = (go most id e d left lft pend).1.length → (go most id e d left lft pend).1[i].f2 = (decide (max (min (min left lft) pend) 0 = pend) && e)) := by
  induction d with
  | zero =>
    intro left lft pend h
    refine ⟨?_, fun i hi => by simp [go] at hi⟩
    have : max (min (min left lft) pend) 0 = 0 := by omega
    rw [this]
    simp only [go, List.length_nil]
    rw [Int.ediv_eq_zero_of_lt (by omega) (by omega)]
    rfl
  | succ d ih =>
    intro left lft pend h
    have e0 : mn (mn (mn pend lft) left) most = min (min (min left lft) pend) most := by
      rw [mn_eq, mn_eq, mn_eq]; omega
    by_cases hn : mn (mn (mn pend lft) left) most > 0
    · have eg : go most id e (d + 1) left lft pend = (⟨id, mn (mn (mn pend lft) left) most, decide (pend - mn (mn (mn pend lft) left) most = 0) && e⟩ :: (go most id e d (left - mn (mn (mn pend lft) left) most) (lft - mn (mn (mn pend lft) left) most) (pend - mn (mn (mn pend lft) left) most)).1, (go most id e d (left - mn (mn (mn pend lft) left) most) (lft - mn (mn (mn pend lft) left) most) (pend - mn (mn (mn pend lft) left) most)).2) := by
        simp only [go]; rw [if_pos hn]
      obtain ⟨i1, i2⟩ := ih (left - mn (mn (mn pend lft) left) most) (lft - mn (mn (mn pend lft) left) most) (pend - mn (mn (mn pend lft) left) most) (by omega)
      rw [eg]
      generalize mn (mn (mn pend lft) left) most = n at *
      generalize (go most id e d (left - n) (lft - n) (pend - n)).1 = L at *
      have eM : max (min (min (left - n) (lft - n)) (pend - n)) 0 = max (min (min left lft) pend) 0 - n := by omega
      rw [eM] at i1 i2
      have hM : 0 < max (min (min left lft) pend) 0 := by omega
      have hMp : max (min (min left lft) pend) 0 ≤ pend := by omega
      have hMn : n = min (max (min (min left lft) pend) 0) most := by omega
      generalize max (min (min left lft) pend) 0 = M at *
      have hL : (L.length : Int) + 1 = (M + most - 1) / most := by
        rw [i1, up_div _ _ hm, up_div _ _ hm]
        by_cases hc : M ≤ most
        · have : n = M := by omega
          subst this
          rw [Int.ediv_eq_zero_of_lt (by omega) (by omega) (a := n - 1)]
          have h2 := Int.add_mul_ediv_right (n - n - 1) 1 (show most ≠ 0 by omega)
          rw [show n - n - 1 + 1 * most = most - 1 by omega, Int.ediv_eq_zero_of_lt (by omega) (by omega)] at h2
          omega
        · have : n = most := by omega
          subst this
          have h2 := Int.add_mul_ediv_right (M - n - 1) 1 (show n ≠ 0 by omega)
          rw [show M - n - 1 + 1 * n = M - 1 by omega] at h2
          omega
      refine ⟨by simp only [List.length_cons]; omega, fun i hi => ?_⟩
      cases i with
      | zero =>
        simp only [List.getElem_cons_zero, List.length_cons]
        refine ⟨trivial, fun hc => ?_, fun hc => ?_⟩
        · have hLp : 0 < L.length := by omega
          by_cases hc2 : M ≤ most
          · exfalso
            have : n = M := by omega
            subst this
            rw [Int.sub_self, Int.zero_add, Int.ediv_eq_zero_of_lt (by omega) (by omega)] at i1
            omega
          · refine ⟨by omega, ?_⟩
            rw [decide_eq_false (by omega), Bool.false_and]
        · have hL0 : L.length = 0 := by omega
          by_cases hc2 : M ≤ most
          · have : n = M := by omega
            subst this
            congr 1
            exact decide_eq_decide.2 (by omega)
          · exfalso
            have : n = most := by omega
            subst this
            rw [hL0, up_div _ _ hm] at i1
            have : 0 ≤ (M - n - 1) / n := Int.ediv_nonneg (by omega) (by omega)
            omega
      | succ i =>
        simp only [List.length_cons] at hi
        have := i2 i (by omega)
        simp only [List.getElem_cons_succ, List.length_cons]
        refine ⟨this.1, fun hc => this.2.1 (by omega), fun hc => ?_⟩
        rw [this.2.2 (by omega)]
        congr 1
        exact decide_eq_decide.2 (by omega)
    · have eg : go most id e (d + 1) left lft pend = ([], left) := by
        simp only [go]; rw [if_neg hn]
      rw [eg]
      refine ⟨?_, fun i hi => by simp at hi⟩
      have : max (min (min left lft) pend) 0 = 0 := by omega
      rw [this]
      simp only [List.length_nil]
      rw [Int.ediv_eq_zero_of_lt (by omega) (by omega)]
      rfl
theorem one_l0 (most n id lft pend : Int) (e : Bool) (L : List S34) (hl : L.length ≤ 1000000)
    (hL : ∀ (i : Nat) (h : i < L.length), L[i].f0 = id ∧ (i + 1 < L.length → L[i].f1 = most ∧ L[i].f2 = false) ∧ (i + 1 = L.length → L[i].f2 = (decide (n = pend) && e))) (d : Nat) :
    ∀ i : Nat, L.length - i = d → Ev (fun k => bywashlaw16_PumpOne.l0 k most n L L (L.length : Int) (i : Int) id lft pend e) true := by
  induction d with
  | zero =>
    intro i hd
    refine Ev.step (fun k => bywashlaw16_PumpOne.l0.eq_2 ..) ?_
    exact Ev_neg (by omega) (Ev_some rfl)
  | succ d ih =>
    intro i hd
    have hi : i < L.length := by omega
    have e1 : rd_T34 L (i : Int) = L[i] := by simp [rd_T34, List.getD, hi]
    obtain ⟨p1, p2, p3⟩ := hL i hi
    refine Ev.step (fun k => bywashlaw16_PumpOne.l0.eq_2 ..) ?_
    refine Ev_pos (by omega) (Ev_pos (by omega) (Ev_pos (by omega) ?_))
    rw [e1, wid (x := (i : Int) + 1) (by omega) (by omega), wid (x := (L.length : Int) - 1) (by omega) (by omega)]
    refine Ev_pos p1 ?_
    by_cases hc : i + 1 < L.length
    · obtain ⟨q1, q2⟩ := p2 hc
      refine Ev_pos (by omega) (Ev_pos q1 (Ev_neg (by simp [q2]) (Ev_neg (by omega) ?_)))
      exact ih (i + 1) (by omega)
    · have q := p3 (by omega)
      refine Ev_neg (by omega) (Ev_pos (by omega) ?_)
      cases e with
      | true =>
        refine Ev_pos rfl (Ev_neg ?_ (ih (i + 1) (by omega)))
        rw [q]
        by_cases hq : n = pend <;> simp [hq]
      | false => exact Ev_neg (by simp) (Ev_neg (by rw [q]; simp) (ih (i + 1) (by omega)))
theorem PumpOne : StaPumpOne.Pure := by
  intro left most p wl wm hp
  obtain ⟨_, g1, g2, _⟩ := hp
  have rl := wf_range wl
  have j0_true : Ev (fun k => bywashlaw16_PumpOne.j0 k left most true p.f0 p.f1 p.f2 p.f3) true := by
    refine Ev.step (fun k => bywashlaw16_PumpOne.j0.eq_2 ..) ?_
    exact Ev_pos rfl (Ev.bind alive_ev (Ev.now _))
  refine Ev.rounds ?_
  unfold bywashlaw16_PumpOne.f
  refine Ev_ite (fun _ => j0_true) fun h1 => ?_
  refine Ev_ite (fun _ => j0_true) fun h2 => ?_
  refine Ev_ite (fun _ => j0_true) fun h3 => ?_
  refine Ev_ite (fun _ => j0_true) fun h4 => ?_
  refine Ev.bind alive_ev ?_
  refine Ev.step (fun k => bywashlaw16_PumpOne.j0.eq_2 ..) ?_
  refine Ev_neg (by simp) ?_
  have hL : ∀ x ∈ [p], Lim x := by
    intro x hx
    rw [List.mem_singleton] at hx; subst hx
    exact ⟨wf_range g1, wf_range g2, by omega⟩
  have ep : plan most left [(⟨p.f0, p.f1, p.f2, p.f3⟩ : S26)] = (go most p.f0 p.f3 p.f2.toNat left p.f1 p.f2).1 := by
    simp only [plan, part]
    rw [if_neg (by omega)]
    simp
  have hgo := go_shape most p.f0 (by omega) p.f3 p.f2.toNat left p.f1 p.f2 (by omega)
  have hsum := (go_sum most p.f0 p.f3 p.f2.toNat left p.f1 p.f2 (by omega)).1
  have hlen := go_len most p.f0 p.f3 p.f2.toNat left p.f1 p.f2
  have hpl := plan_ev left most [(⟨p.f0, p.f1, p.f2, p.f3⟩ : S26)] hL (by simp) rl
  have hsm := plan_small most [(⟨p.f0, p.f1, p.f2, p.f3⟩ : S26)] left hL
  rw [ep] at hpl hsm
  have eM : mx (mn (mn left p.f1) p.f2) 0 = max (min (min left p.f1) p.f2) 0 := by rw [mx_eq, mn_eq, mn_eq]
  refine Ev.bind hpl (Ev.bind (sum_ev _ hsm (by omega)) ?_)
  rw [eM]
  have hs2 : sumN (go most p.f0 p.f3 p.f2.toNat left p.f1 p.f2).1 = max (min (min left p.f1) p.f2) 0 := by
    rw [hsum]; unfold much; rw [if_neg (by omega)]; omega
  refine Ev_pos hs2 (Ev_neg (by omega) ?_)
  have hM : 0 ≤ max (min (min left p.f1) p.f2) 0 ∧ max (min (min left p.f1) p.f2) 0 ≤ 3000 := by omega
  generalize max (min (min left p.f1) p.f2) 0 = M at *
  have hq : 0 ≤ (M + most - 1) / most ∧ (M + most - 1) / most ≤ M + most - 1 := ⟨Int.ediv_nonneg (by omega) (by omega), Int.ediv_le_self _ (by omega)⟩
  have e2 : wrap64 (Int.tdiv (wrap64 (wrap64 (M + most) - 1)) most) = (M + most - 1) / most := by
    rw [wid (x := M + most) (by omega) (by omega), wid (x := M + most - 1) (by omega) (by omega), Int.tdiv_eq_ediv_of_nonneg (by omega), wid (by omega) (by omega)]
  rw [e2, ← hgo.1]
  refine Ev.step (fun k => bywashlaw16_PumpOne.j1.eq_2 ..) ?_
  refine Ev_neg (by simp) ?_
  exact one_l0 most M p.f0 p.f1 p.f2 p.f3 _ (by omega) hgo.2 _ 0 rfl

end Go.Proofs.Ytjjdhaphgnldaaa.Pure
