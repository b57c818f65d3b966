/- With no window nothing goes but ends without bytes. Conditions: those of the statement itself. -/
import Derived.Test.YtjjdhaphgnldaaaPPumpEmptyx0
import Derived.Test.YtjjdhaphgnldaaaPPumpEmptyx1
import Derived.Test.YtjjdhaphgnldaaaPPumpEmptyx2
import Derived.Test.YtjjdhaphgnldaaaPPumpEmptyx3
import Derived.Test.YtjjdhaphgnldaaaStaPumpEmpty
import Derived.Test.YtjjdhaphgnldaaaAid
namespace Go.Proofs.Ytjjdhaphgnldaaa.Pure
open Go.RowKit Go.Proofs.YtjjdhaphgnldaaaW.PrintWords Go.Proofs.YtjjdhaphgnldaaaW.PrintLast Go.Proofs.YtjjdhaphgnldaaaW.PrintMore Go.Proofs.Ytjjdhaphgnldaaa.Aid Go.Proofs.Ytjjdhaphgnldaaa.PPumpEmpty Go.Proofs.Ytjjdhaphgnldaaa.StaPumpEmpty
set_option linter.unusedVariables false
set_option linter.unusedSimpArgs false

def sumN (l : List S34) : Int := (l.map (·.f1)).sum
/-- What a part sends: its slices, and what the connection may send behind them. -/
def go (most id : Int) (e : Bool) : Nat → Int → Int → Int → List S34 × Int
  | 0, left, _, _ => ([], left)
  | d + 1, left, lft, pend =>
    let n := mn (mn (mn pend lft) left) most
    if n > 0 then (⟨id, n, decide (pend - n = 0) && e⟩ :: (go most id e d (left - n) (lft - n) (pend - n)).1, (go most id e d (left - n) (lft - n) (pend - n)).2) else ([], left)
theorem go_len (most id : Int) (e : Bool) (d : Nat) : ∀ left lft pend : Int, (go most id e d left lft pend).1.length ≤ d := by
  induction d with
  | zero => intro left lft pend; simp [go]
  | succ d ih =>
    intro left lft pend
    simp only [go]
    split
    · simpa using ih _ _ _
    · simp
def Rg (x : Int) : Prop := -9223372036854775808 ≤ x ∧ x ≤ 9223372036854775807
theorem l1_ev {r : List S34} (most id : Int) (e : Bool) (xs : List S26) (x12 x13 : Int) (d : Nat) :
    ∀ (left lft pend : Int) (out : List S34), Rg left → Rg lft → Rg pend → pend ≤ d → out.length + d < 5864062014805 →
      Ev (fun k => pump_Plan.l0 k (go most id e d left lft pend).2 most (out ++ (go most id e d left lft pend).1) xs x12 (wrap64 (x13 + 1))) r →
      Ev (fun k => pump_Plan.l1 k left most out (mn (mn (mn pend lft) left) most) xs x12 x13 id lft pend e) r := by
  induction d with
  | zero =>
    intro left lft pend out h1 h2 h3 h4 h5 h
    have a1 := mn_le pend lft
    have a2 := mn_le (mn pend lft) left
    have a3 := mn_le (mn (mn pend lft) left) most
    refine Ev.step (fun k => pump_Plan.l1.eq_2 ..) ?_
    refine Ev_neg (by omega) ?_
    simpa [go] using h
  | succ d ih =>
    intro left lft pend out h1 h2 h3 h4 h5 h
    have a1 := mn_le pend lft
    have a2 := mn_le (mn pend lft) left
    have a3 := mn_le (mn (mn pend lft) left) most
    obtain ⟨h1, h1'⟩ := h1
    obtain ⟨h2, h2'⟩ := h2
    obtain ⟨h3, h3'⟩ := h3
    refine Ev.step (fun k => pump_Plan.l1.eq_2 ..) ?_
    by_cases hn : mn (mn (mn pend lft) left) most > 0
    · simp only [go, if_pos hn] at h
      generalize mn (mn (mn pend lft) left) most = n at *
      refine Ev_pos hn ?_
      rw [wid (x := pend - n) (by omega) (by omega), wid (x := lft - n) (by omega) (by omega), wid (x := left - n) (by omega) (by omega)]
      have key : ∀ q : Bool, q = (decide (pend - n = 0) && e) → Ev (fun k => pump_Plan.l1 k (left - n) most (out ++ [⟨id, n, q⟩]) (mn (mn (mn (pend - n) (lft - n)) (left - n)) most) xs x12 x13 id (lft - n) (pend - n) e) r := by
        intro q hq
        refine ih (left - n) (lft - n) (pend - n) _ ⟨by omega, by omega⟩ ⟨by omega, by omega⟩ ⟨by omega, by omega⟩ (by omega) (by simp; omega) ?_
        rw [hq, List.append_assoc, List.singleton_append]
        exact h
      by_cases hz : pend - n = 0
      · exact Ev_pos hz (Ev_pos (by omega) (key e (by simp [hz])))
      · exact Ev_neg hz (Ev_pos (by omega) (key false (by simp [hz])))
    · simp only [go, if_neg hn] at h
      refine Ev_neg hn ?_
      simpa using h
/-- All slices of a part. -/
def part (most left : Int) (x : S26) : List S34 × Int :=
  ((if x.f2 = 0 ∧ x.f3 = true then [⟨x.f0, 0, true⟩] else []) ++ (go most x.f0 x.f3 x.f2.toNat left x.f1 x.f2).1, (go most x.f0 x.f3 x.f2.toNat left x.f1 x.f2).2)
def plan (most : Int) : Int → List S26 → List S34
  | _, [] => []
  | left, x :: l => (part most left x).1 ++ plan most (part most left x).2 l
theorem go_left (most id : Int) (e : Bool) (d : Nat) : ∀ left lft pend : Int, Rg left → Rg (go most id e d left lft pend).2 := by
  induction d with
  | zero => intro left lft pend h; simpa [go] using h
  | succ d ih =>
    intro left lft pend h
    have a2 := mn_le (mn pend lft) left
    have a3 := mn_le (mn (mn pend lft) left) most
    simp only [go]
    split
    · refine ih _ _ _ ⟨?_, ?_⟩ <;> have := h.1 <;> have := h.2 <;> omega
    · exact h
def Lim (x : S26) : Prop := Rg x.f1 ∧ Rg x.f2 ∧ x.f2 ≤ 4000
theorem rd_at (xs : List S26) (i : Nat) (x : S26) (l : List S26) (h : xs.drop i = x :: l) : rd_T26 xs (i : Int) = x := by
  have : xs[i]? = some x := by
    have := congrArg (·[0]?) h
    simpa using this
  simp [rd_T26, List.getD, this]
theorem l0_ev (most : Int) (xs : List S26) (hL : ∀ x ∈ xs, Lim x) (hlen : xs.length ≤ 1000000) (l : List S26) :
    ∀ (i : Nat) (left : Int) (out : List S34), xs.drop i = l → Rg left → out.length + l.length * 4001 < 5864062014805 →
      Ev (fun k => pump_Plan.l0 k left most out xs (xs.length : Int) (i : Int)) (out ++ plan most left l) := by
  induction l with
  | nil =>
    intro i left out hd _ _
    have hi : xs.length ≤ i := by
      rcases Nat.lt_or_ge i xs.length with h | h
      · have := List.length_drop (i := i) (l := xs); rw [hd] at this; simp at this; omega
      · exact h
    refine Ev.step (fun k => pump_Plan.l0.eq_2 ..) ?_
    refine Ev_neg (by omega) ?_
    exact Ev_some (by simp [plan])
  | cons x l ih =>
    intro i left out hd hl ho
    have hi : i < xs.length := by
      rcases Nat.lt_or_ge i xs.length with h | h
      · exact h
      · rw [List.drop_eq_nil_of_le h] at hd; cases hd
    have hx : x ∈ xs := by
      have : x ∈ xs.drop i := by rw [hd]; simp
      exact List.mem_of_mem_drop this
    obtain ⟨r1, r2, r3⟩ := hL x hx
    have hg := go_len most x.f0 x.f3 x.f2.toNat left x.f1 x.f2
    have hnext : xs.drop (i + 1) = l := by
      have := congrArg (·.drop 1) hd
      simpa [Nat.add_comm] using this
    simp only [List.length_cons] at ho
    refine Ev.step (fun k => pump_Plan.l0.eq_2 ..) ?_
    refine Ev_pos (by omega) (Ev_pos (by omega) (Ev_pos (by omega) ?_))
    rw [rd_at xs i x l hd]
    have tail : ∀ pre : List S34, pre = (if x.f2 = 0 ∧ x.f3 = true then [⟨x.f0, 0, true⟩] else []) → Ev (fun k => pump_Plan.j2 k left most (out ++ pre) xs (xs.length : Int) (i : Int) x.f0 x.f1 x.f2 x.f3) (out ++ plan most left (x :: l)) := by
      intro pre hpre
      have hpl : pre.length ≤ 1 := by rw [hpre]; split <;> simp
      refine Ev.step (fun k => pump_Plan.j2.eq_2 ..) ?_
      refine l1_ev most x.f0 x.f3 xs _ _ x.f2.toNat left x.f1 x.f2 _ hl r1 r2 (by omega) (by simp; omega) ?_
      rw [wid (by omega) (by omega)]
      have e1 : (i : Int) + 1 = ((i + 1 : Nat) : Int) := by omega
      rw [e1]
      have := ih (i + 1) (go most x.f0 x.f3 x.f2.toNat left x.f1 x.f2).2 (out ++ pre ++ (go most x.f0 x.f3 x.f2.toNat left x.f1 x.f2).1) hnext (go_left _ _ _ _ _ _ _ hl) (by simp; omega)
      have e2 : out ++ plan most left (x :: l) = out ++ pre ++ (go most x.f0 x.f3 x.f2.toNat left x.f1 x.f2).1 ++ plan most (go most x.f0 x.f3 x.f2.toNat left x.f1 x.f2).2 l := by
        simp [plan, part, hpre, List.append_assoc]
      rw [e2]
      exact this
    have j1 : ∀ q : Bool, q = decide (x.f2 = 0 ∧ x.f3 = true) → Ev (fun k => pump_Plan.j1 k left most out xs (xs.length : Int) (i : Int) q x.f0 x.f1 x.f2 x.f3) (out ++ plan most left (x :: l)) := by
      intro q hq
      refine Ev.step (fun k => pump_Plan.j1.eq_2 ..) ?_
      cases q with
      | true =>
        have := of_decide_eq_true hq.symm
        exact Ev_pos rfl (Ev_pos (by omega) (tail _ (by rw [if_pos this])))
      | false =>
        have := of_decide_eq_false hq.symm
        have t := tail [] (by rw [if_neg this])
        rw [List.append_nil] at t
        exact Ev_neg (by simp) t
    by_cases h0 : x.f2 = 0
    · exact Ev_pos h0 (j1 _ (by simp [h0]))
    · exact Ev_neg h0 (j1 _ (by simp [h0]))
theorem plan_ev (left most : Int) (xs : List S26) (hL : ∀ x ∈ xs, Lim x) (hlen : xs.length ≤ 1000000) (hl : Rg left) : Ev (fun k => pump_Plan.f k left most xs) (plan most left xs) := by
  have := l0_ev most xs hL hlen xs 0 left [] rfl hl (by simp; omega)
  simpa [pump_Plan.f] using this
/-- How much a part sends. -/
def much (most left lft pend : Int) : Int := if most < 1 then 0 else max (min (min pend lft) left) 0
theorem go_sum (most id : Int) (e : Bool) (d : Nat) : ∀ left lft pend : Int, pend ≤ d → sumN (go most id e d left lft pend).1 = much most left lft pend ∧ (go most id e d left lft pend).2 = left - much most left lft pend := by
  induction d with
  | zero =>
    intro left lft pend h
    simp only [go, sumN, much, List.map_nil, List.sum_nil]
    split <;> omega
  | succ d ih =>
    intro left lft pend h
    have a1 := mn_le pend lft
    have a2 := mn_le (mn pend lft) left
    have a3 := mn_le (mn (mn pend lft) left) most
    have := ih (left - mn (mn (mn pend lft) left) most) (lft - mn (mn (mn pend lft) left) most) (pend - mn (mn (mn pend lft) left) most)
    simp only [go]
    split
    · have := this (by omega)
      simp only [sumN, List.map_cons, List.sum_cons] at *
      rw [this.1, this.2]
      unfold much
      split <;> omega
    · simp only [sumN, much, List.map_nil, List.sum_nil]
      split <;> omega
theorem go_pos (most id : Int) (e : Bool) (d : Nat) : ∀ left lft pend : Int, ∀ s ∈ (go most id e d left lft pend).1, s.f0 = id ∧ 0 < s.f1 ∧ s.f1 ≤ most := by
  induction d with
  | zero => intro left lft pend s hs; simp [go] at hs
  | succ d ih =>
    intro left lft pend s hs
    have a3 := mn_le (mn (mn pend lft) left) most
    simp only [go] at hs
    split at hs
    · rcases List.mem_cons.1 hs with rfl | hs
      · exact ⟨rfl, by assumption, a3.2.1⟩
      · exact ih _ _ _ s hs
    · cases hs
theorem sum_run (l : List S34) (hb : ∀ s ∈ l, 0 ≤ s.f1 ∧ s.f1 ≤ 100000) (hl : l.length ≤ 1000000) (d : Nat) : ∀ (i : Nat) (acc : Int), l.length - i = d → 0 ≤ acc → acc ≤ 100000 * i → Ev (fun k => pump_Sum.l0 k acc l (l.length : Int) (i : Int)) (acc + sumN (l.drop i)) := by
  induction d with
  | zero =>
    intro i acc hd _ _
    refine Ev.step (fun k => pump_Sum.l0.eq_2 ..) ?_
    refine Ev_neg (by omega) ?_
    exact Ev_some (by rw [List.drop_eq_nil_of_le (by omega)]; simp [sumN])
  | succ d ih =>
    intro i acc hd h0 h1
    have hi : i < l.length := by omega
    have hs := hb l[i] (List.getElem_mem hi)
    have e1 : rd_T34 l (i : Int) = l[i] := by simp [rd_T34, List.getD, hi]
    have e2 : sumN (l.drop i) = l[i].f1 + sumN (l.drop (i + 1)) := by rw [List.drop_eq_getElem_cons hi]; simp only [sumN, List.map_cons, List.sum_cons]
    refine Ev.step (fun k => pump_Sum.l0.eq_2 ..) ?_
    refine Ev_pos (by omega) (Ev_pos (by omega) (Ev_pos (by omega) ?_))
    rw [e1, wid (x := acc + l[i].f1) (by omega) (by omega), wid (x := (i : Int) + 1) (by omega) (by omega), e2, ← Int.add_assoc]
    exact ih (i + 1) (acc + l[i].f1) (by omega) (by omega) (by omega)
theorem sum_ev (l : List S34) (hb : ∀ s ∈ l, 0 ≤ s.f1 ∧ s.f1 ≤ 100000) (hl : l.length ≤ 1000000) : Ev (fun k => pump_Sum.f k l) (sumN l) := by
  have := sum_run l hb hl l.length 0 0 (by omega) (by omega) (by omega)
  simpa [pump_Sum.f] using this
theorem alive_ev : Ev (fun k => bywashlaw16_alive.f k) true := by
  unfold bywashlaw16_alive.f
  have hb : plan 64 100 [⟨1, 100, 80, true⟩] = [⟨1, 64, false⟩, ⟨1, 16, true⟩] := by simp [plan, part, go, mn]
  have h := plan_ev 100 64 [⟨1, 100, 80, true⟩] (by intro x hx; simp at hx; subst hx; simp [Lim, Rg]) (by simp) (by simp [Rg])
  rw [hb] at h
  refine Ev.bind h ?_
  refine Ev_pos rfl (Ev_pos (by simp) (Ev_pos rfl (Ev_pos (by simp) (Ev_pos rfl ?_))))
  exact Ev.bind (sum_ev _ (by intro s hs; simp at hs; rcases hs with rfl | rfl <;> simp) (by simp)) (Ev_some rfl)
theorem go_small (most id : Int) (e : Bool) (d : Nat) : ∀ left lft pend : Int, ∀ s ∈ (go most id e d left lft pend).1, 0 < s.f1 ∧ s.f1 ≤ pend := by
  induction d with
  | zero => intro left lft pend s hs; simp [go] at hs
  | succ d ih =>
    intro left lft pend s hs
    have a1 := mn_le pend lft
    have a2 := mn_le (mn pend lft) left
    have a3 := mn_le (mn (mn pend lft) left) most
    simp only [go] at hs
    split at hs
    · rcases List.mem_cons.1 hs with rfl | hs
      · exact ⟨by assumption, by show mn (mn (mn pend lft) left) most ≤ pend; omega⟩
      · have := ih _ _ _ s hs
        omega
    · cases hs
theorem plan_small (most : Int) (l : List S26) : ∀ left : Int, (∀ x ∈ l, Lim x) → ∀ s ∈ plan most left l, 0 ≤ s.f1 ∧ s.f1 ≤ 100000 := by
  induction l with
  | nil => intro left _ s hs; cases hs
  | cons x l ih =>
    intro left hL s hs
    have hx := hL x (by simp)
    simp only [plan, part, List.mem_append] at hs
    rcases hs with (hs | hs) | hs
    · split at hs
      · simp at hs; subst hs; simp
      · cases hs
    · have := go_small most x.f0 x.f3 _ left x.f1 x.f2 s hs
      have := hx.2.2
      omega
    · exact ih _ (fun y hy => hL y (by simp [hy])) s hs
theorem plan_len (most : Int) (l : List S26) : ∀ left : Int, (∀ x ∈ l, Lim x) → (plan most left l).length ≤ l.length * 4001 := by
  induction l with
  | nil => intro left _; simp [plan]
  | cons x l ih =>
    intro left hL
    have hx := hL x (by simp)
    have h1 := go_len most x.f0 x.f3 x.f2.toNat left x.f1 x.f2
    have h2 := ih (part most left x).2 (fun y hy => hL y (by simp [hy]))
    have h3 : (if x.f2 = 0 ∧ x.f3 = true then [(⟨x.f0, 0, true⟩ : S34)] else []).length ≤ 1 := by split <;> simp
    have := hx.2.2
    simp only [plan, part, List.length_append, List.length_cons] at *
    omega
theorem sumN_append (a b : List S34) : sumN (a ++ b) = sumN a + sumN b := by simp [sumN]
theorem sumN_part (most left : Int) (x : S26) : sumN (part most left x).1 = much most left x.f1 x.f2 ∧ (part most left x).2 = left - much most left x.f1 x.f2 := by
  have h := go_sum most x.f0 x.f3 x.f2.toNat left x.f1 x.f2 (by omega)
  unfold part
  rw [sumN_append, h.1, h.2]
  refine ⟨?_, rfl⟩
  split <;> simp [sumN]

theorem light_l0 (xs : List S26) (hlen : xs.length ≤ 4398046511104) (d : Nat) : ∀ i : Nat, xs.length - i = d → ∃ b : Bool, Ev (fun k => bywashlaw16_Light.l0 k xs xs (xs.length : Int) (i : Int)) b ∧ (b = true → xs.length ≤ 30 ∧ ∀ x ∈ xs.drop i, x.f2 ≤ 4000) := by
  induction d with
  | zero =>
    intro i hd
    refine ⟨decide ((xs.length : Int) ≤ 30), ?_, fun h => ⟨by have := of_decide_eq_true h; omega, by rw [List.drop_eq_nil_of_le (by omega)]; simp⟩⟩
    refine Ev.step (fun k => bywashlaw16_Light.l0.eq_2 ..) ?_
    exact Ev_neg (by omega) (Ev_some rfl)
  | succ d ih =>
    intro i hd
    have hi : i < xs.length := by omega
    have e1 : rd_T26 xs (i : Int) = xs[i] := by simp [rd_T26, List.getD, hi]
    by_cases h4 : xs[i].f2 > 4000
    · refine ⟨false, ?_, by simp⟩
      refine Ev.step (fun k => bywashlaw16_Light.l0.eq_2 ..) ?_
      refine Ev_pos (by omega) (Ev_pos (by omega) (Ev_pos (by omega) ?_))
      rw [e1]
      exact Ev_pos h4 (Ev_some rfl)
    · obtain ⟨b, hb, h⟩ := ih (i + 1) (by omega)
      refine ⟨b, ?_, fun hb => ⟨(h hb).1, ?_⟩⟩
      · refine Ev.step (fun k => bywashlaw16_Light.l0.eq_2 ..) ?_
        refine Ev_pos (by omega) (Ev_pos (by omega) (Ev_pos (by omega) ?_))
        rw [e1]
        refine Ev_neg h4 ?_
        rw [wid (by omega) (by omega)]
        exact hb
      · rw [List.drop_eq_getElem_cons hi]
        intro x hx
        rcases List.mem_cons.1 hx with rfl | hx
        · omega
        · exact (h hb).2 x hx
theorem light_ev (a : Int) (xs : List S26) (hlen : xs.length ≤ 4398046511104) : ∃ b : Bool, Ev (fun k => bywashlaw16_Light.f k a xs) b ∧ (b = true → xs.length ≤ 30 ∧ ∀ x ∈ xs, x.f2 ≤ 4000) := by
  have := light_l0 xs hlen xs.length 0 (by omega)
  simpa [bywashlaw16_Light.f] using this

def ends (l : List S26) : List S34 := l.filterMap fun x => if x.f2 = 0 ∧ x.f3 = true then some ⟨x.f0, 0, true⟩ else none
theorem go_zero (most id : Int) (e : Bool) (d : Nat) (lft pend : Int) : go most id e d 0 lft pend = ([], 0) := by
  cases d with
  | zero => rfl
  | succ d =>
    have a2 := mn_le (mn pend lft) 0
    have a3 := mn_le (mn (mn pend lft) 0) most
    simp only [go]
    rw [if_neg (by omega)]
theorem plan_zero (most : Int) (l : List S26) : plan most 0 l = ends l := by
  induction l with
  | nil => rfl
  | cons x l ih =>
    simp only [plan, part, go_zero, ih, ends, List.filterMap_cons]
    by_cases h : x.f2 = 0 ∧ x.f3 = true
    · simp [h]
    · simp [h]
theorem ends_zero (l : List S26) : sumN (ends l) = 0 := by
  induction l with
  | nil => rfl
  | cons x l ih =>
    simp only [ends, List.filterMap_cons] at *
    split
    · exact ih
    · rename_i b h
      split at h
      · injection h with h; subst h; simpa [sumN] using ih
      · cases h
theorem ends_len (l : List S26) : (ends l).length ≤ l.length := List.length_filterMap_le _ _
theorem ends_snoc (l : List S26) (x : S26) : ends (l ++ [x]) = ends l ++ (if x.f2 = 0 ∧ x.f3 = true then [⟨x.f0, 0, true⟩] else []) := by
  simp only [ends, List.filterMap_append, List.filterMap_cons, List.filterMap_nil]
  congr 1
  by_cases h : x.f2 = 0 ∧ x.f3 = true
  · simp [h]
  · simp [h]
theorem same_l1 (l : List S34) (hb : ∀ s ∈ l, 0 ≤ s.f1 ∧ s.f1 ≤ 100000) (hl : l.length ≤ 1000000) (hs : sumN l = 0) (d : Nat) : ∀ i : Nat, l.length - i = d → Ev (fun k => bywashlaw16_PumpEmpty.l1 k l l (l.length : Int) (i : Int)) true := by
  induction d with
  | zero =>
    intro i hd
    refine Ev.step (fun k => bywashlaw16_PumpEmpty.l1.eq_2 ..) ?_
    refine Ev_neg (by omega) ?_
    exact Ev.bind (sum_ev l hb hl) (Ev_some (by simp [hs]))
  | succ d ih =>
    intro i hd
    refine Ev.step (fun k => bywashlaw16_PumpEmpty.l1.eq_2 ..) ?_
    refine Ev_pos (by omega) (Ev_pos (by omega) (Ev_pos (by omega) (Ev_pos (by omega) ?_)))
    refine Ev_neg (by simp) ?_
    rw [wid (x := (i : Int) + 1) (by omega) (by omega)]
    exact ih (i + 1) (by omega)
theorem empty_l0 (most : Int) (xs : List S26) (hL : ∀ x ∈ xs, Lim x) (hlen : xs.length ≤ 30) (d : Nat) :
    ∀ i : Nat, xs.length - i = d → Ev (fun k => bywashlaw16_PumpEmpty.l0 k most xs (ends (xs.take i)) xs (xs.length : Int) (i : Int)) true := by
  induction d with
  | zero =>
    intro i hd
    rw [List.take_of_length_le (by omega)]
    refine Ev.step (fun k => bywashlaw16_PumpEmpty.l0.eq_2 ..) ?_
    refine Ev_neg (by omega) ?_
    have h := plan_ev 0 most xs hL (by omega) ⟨by omega, by omega⟩
    have hb := plan_small most xs 0 hL
    rw [plan_zero] at h hb
    refine Ev.bind h (Ev_pos rfl ?_)
    exact same_l1 _ hb (by have := ends_len xs; omega) (ends_zero xs) (ends xs).length 0 (by omega)
  | succ d ih =>
    intro i hd
    have hi : i < xs.length := by omega
    have e1 : rd_T26 xs (i : Int) = xs[i] := by simp [rd_T26, List.getD, hi]
    have et : xs.take (i + 1) = xs.take i ++ [xs[i]] := by rw [List.take_succ_eq_append_getElem hi]
    have hn := ih (i + 1) (by omega)
    rw [et, ends_snoc] at hn
    have hle := ends_len (xs.take i)
    have hle2 : (xs.take i).length ≤ i := List.length_take_le _ _
    refine Ev.step (fun k => bywashlaw16_PumpEmpty.l0.eq_2 ..) ?_
    refine Ev_pos (by omega) (Ev_pos (by omega) (Ev_pos (by omega) ?_))
    rw [e1, wid (x := (i : Int) + 1) (by omega) (by omega)]
    by_cases h2 : xs[i].f2 = 0
    · refine Ev_pos h2 ?_
      by_cases h3 : xs[i].f3 = true
      · refine Ev_pos h3 (Ev_pos (by omega) ?_)
        rw [if_pos ⟨h2, h3⟩] at hn
        exact hn
      · refine Ev_neg h3 ?_
        rw [if_neg (by simp [h3]), List.append_nil] at hn
        exact hn
    · refine Ev_neg h2 ?_
      rw [if_neg (by simp [h2]), List.append_nil] at hn
      exact hn
theorem j0_true (a : Int) (xs : List S26) : Ev (fun k => bywashlaw16_PumpEmpty.j0 k a xs true) true := by
  refine Ev.step (fun k => bywashlaw16_PumpEmpty.j0.eq_2 ..) ?_
  exact Ev_pos rfl (Ev.bind alive_ev (Ev.now _))
theorem PumpEmpty : StaPumpEmpty.Pure := by
  intro most xs wm ⟨hml, hsz, hG⟩
  refine Ev.rounds ?_
  unfold bywashlaw16_PumpEmpty.f
  obtain ⟨b, hb, hbt⟩ := light_ev most xs (by omega)
  refine Ev.bind hb ?_
  cases b with
  | false => exact Ev_neg (by simp) (j0_true _ _)
  | true =>
    refine Ev_pos rfl (Ev.bind alive_ev ?_)
    refine Ev.step (fun k => bywashlaw16_PumpEmpty.j0.eq_2 ..) ?_
    refine Ev_neg (by simp) ?_
    obtain ⟨hl, hp⟩ := hbt rfl
    refine empty_l0 most xs ?_ hl xs.length 0 (by omega)
    intro x hx
    obtain ⟨_, g1, g2, _⟩ := hG x hx
    exact ⟨wf_range g1, wf_range g2, hp x hx⟩

end Go.Proofs.Ytjjdhaphgnldaaa.Pure
