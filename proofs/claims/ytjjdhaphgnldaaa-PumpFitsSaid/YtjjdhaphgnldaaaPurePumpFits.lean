/- Of streams by their numbers nothing more goes than all windows let, and than there is; as long as something could go, it goes. Conditions: those of the statement itself. -/
import Derived.Test.YtjjdhaphgnldaaaPPumpFitsx0
import Derived.Test.YtjjdhaphgnldaaaPPumpFitsx1
import Derived.Test.YtjjdhaphgnldaaaPPumpFitsx2
import Derived.Test.YtjjdhaphgnldaaaPPumpFitsx3
import Derived.Test.YtjjdhaphgnldaaaPPumpFitsx4
import Derived.Test.YtjjdhaphgnldaaaStaPumpFits
import Derived.Test.YtjjdhaphgnldaaaAid
namespace Go.Proofs.Ytjjdhaphgnldaaa.Pure
open Go.RowKit Go.Proofs.YtjjdhaphgnldaaaW.PrintWords Go.Proofs.YtjjdhaphgnldaaaW.PrintLast Go.Proofs.YtjjdhaphgnldaaaW.PrintMore Go.Proofs.Ytjjdhaphgnldaaa.Aid Go.Proofs.Ytjjdhaphgnldaaa.PPumpFits Go.Proofs.Ytjjdhaphgnldaaa.StaPumpFits
set_option linter.unusedVariables false
set_option linter.unusedSimpArgs false

def sumN (l : List S34) : Int := (l.map (·.f1)).sum
/-- What a part sends: its slices, and what the connection may send behind them. -/
def go (most id : Int) (e : Bool) : Nat → Int → Int → Int → List S34 × Int
  | 0, left, _, _ => ([], left)
  | d + 1, left, lft, pend =>
    let n := mn (mn (mn pend lft) left) most
    if n > 0 then (⟨id, n, decide (pend - n = 0) && e⟩ :: (go most id e d (left - n) (lft - n) (pend - n)).1, (go most id e d (left - n) (lft - n) (pend - n)).2) else ([], left)
theorem go_len (most id : Int) (e : Bool) (d : Nat) : ∀ left lft pend : Int, (go most id e d left lft pend).1.length ≤ d := by
  induction d with
  | zero => intro left lft pend; simp [go]
  | succ d ih =>
    intro left lft pend
    simp only [go]
    split
    · simpa using ih _ _ _
    · simp
def Rg (x : Int) : Prop := -9223372036854775808 ≤ x ∧ x ≤ 9223372036854775807
theorem l1_ev {r : List S34} (most id : Int) (e : Bool) (xs : List S26) (x12 x13 : Int) (d : Nat) :
    ∀ (left lft pend : Int) (out : List S34), Rg left → Rg lft → Rg pend → pend ≤ d → out.length + d < 5864062014805 →
      Ev (fun k => pump_Plan.l0 k (go most id e d left lft pend).2 most (out ++ (go most id e d left lft pend).1) xs x12 (wrap64 (x13 + 1))) r →
      Ev (fun k => pump_Plan.l1 k left most out (mn (mn (mn pend lft) left) most) xs x12 x13 id lft pend e) r := by
  induction d with
  | zero =>
    intro left lft pend out h1 h2 h3 h4 h5 h
    have a1 := mn_le pend lft
    have a2 := mn_le (mn pend lft) left
    have a3 := mn_le (mn (mn pend lft) left) most
    refine Ev.step (fun k => pump_Plan.l1.eq_2 ..) ?_
    refine Ev_neg (by omega) ?_
    simpa [go] using h
  | succ d ih =>
    intro left lft pend out h1 h2 h3 h4 h5 h
    have a1 := mn_le pend lft
    have a2 := mn_le (mn pend lft) left
    have a3 := mn_le (mn (mn pend lft) left) most
    obtain ⟨h1, h1'⟩ := h1
    obtain ⟨h2, h2'⟩ := h2
    obtain ⟨h3, h3'⟩ := h3
    refine Ev.step (fun k => pump_Plan.l1.eq_2 ..) ?_
    by_cases hn : mn (mn (mn pend lft) left) most > 0
    · simp only [go, if_pos hn] at h
      generalize mn (mn (mn pend lft) left) most = n at *
      refine Ev_pos hn ?_
      rw [wid (x := pend - n) (by omega) (by omega), wid (x := lft - n) (by omega) (by omega), wid (x := left - n) (by omega) (by omega)]
      have key : ∀ q : Bool, q = (decide (pend - n = 0) && e) → Ev (fun k => pump_Plan.l1 k (left - n) most (out ++ [⟨id, n, q⟩]) (mn (mn (mn (pend - n) (lft - n)) (left - n)) most) xs x12 x13 id (lft - n) (pend - n) e) r := by
        intro q hq
        refine ih (left - n) (lft - n) (pend - n) _ ⟨by omega, by omega⟩ ⟨by omega, by omega⟩ ⟨by omega, by omega⟩ (by omega) (by simp; omega) ?_
        rw [hq, List.append_assoc, List.singleton_append]
        exact h
      by_cases hz : pend - n = 0
      · exact Ev_pos hz (Ev_pos (by omega) (key e (by simp [hz])))
      · exact Ev_neg hz (Ev_pos (by omega) (key false (by simp [hz])))
    · simp only [go, if_neg hn] at h
      refine Ev_neg hn ?_
      simpa using h
/-- All slices of a part. -/
def part (most left : Int) (x : S26) : List S34 × Int :=
  ((if x.f2 = 0 ∧ x.f3 = true then [⟨x.f0, 0, true⟩] else []) ++ (go most x.f0 x.f3 x.f2.toNat left x.f1 x.f2).1, (go most x.f0 x.f3 x.f2.toNat left x.f1 x.f2).2)
def plan (most : Int) : Int → List S26 → List S34
  | _, [] => []
  | left, x :: l => (part most left x).1 ++ plan most (part most left x).2 l
theorem go_left (most id : Int) (e : Bool) (d : Nat) : ∀ left lft pend : Int, Rg left → Rg (go most id e d left lft pend).2 := by
  induction d with
  | zero => intro left lft pend h; simpa [go] using h
  | succ d ih =>
    intro left lft pend h
    have a2 := mn_le (mn pend lft) left
    have a3 := mn_le (mn (mn pend lft) left) most
    simp only [go]
    split
    · refine ih _ _ _ ⟨?_, ?_⟩ <;> have := h.1 <;> have := h.2 <;> omega
    · exact h
def Lim (x : S26) : Prop := Rg x.f1 ∧ Rg x.f2 ∧ x.f2 ≤ 4000
theorem rd_at (xs : List S26) (i : Nat) (x : S26) (l : List S26) (h : xs.drop i = x :: l) : rd_T26 xs (i : Int) = x := by
  have : xs[i]? = some x := by
    have := congrArg (·[0]?) h
    simpa using this
  simp [rd_T26, List.getD, this]
theorem l0_ev (most : Int) (xs : List S26) (hL : ∀ x ∈ xs, Lim x) (hlen : xs.length ≤ 1000000) (l : List S26) :
    ∀ (i : Nat) (left : Int) (out : List S34), xs.drop i = l → Rg left → out.length + l.length * 4001 < 5864062014805 →
      Ev (fun k => pump_Plan.l0 k left most out xs (xs.length : Int) (i : Int)) (out ++ plan most left l) := by
  induction l with
  | nil =>
    intro i left out hd _ _
    have hi : xs.length ≤ i := by
      rcases Nat.lt_or_ge i xs.length with h | h
      · have := List.length_drop (i := i) (l := xs); rw [hd] at this; simp at this; omega
      · exact h
    refine Ev.step (fun k => pump_Plan.l0.eq_2 ..) ?_
    refine Ev_neg (by omega) ?_
    exact Ev_some (by simp [plan])
  | cons x l ih =>
    intro i left out hd hl ho
    have hi : i < xs.length := by
      rcases Nat.lt_or_ge i xs.length with h | h
      · exact h
      · rw [List.drop_eq_nil_of_le h] at hd; cases hd
    have hx : x ∈ xs := by
      have : x ∈ xs.drop i := by rw [hd]; simp
      exact List.mem_of_mem_drop this
    obtain ⟨r1, r2, r3⟩ := hL x hx
    have hg := go_len most x.f0 x.f3 x.f2.toNat left x.f1 x.f2
    have hnext : xs.drop (i + 1) = l := by
      have := congrArg (·.drop 1) hd
      simpa [Nat.add_comm] using this
    simp only [List.length_cons] at ho
    refine Ev.step (fun k => pump_Plan.l0.eq_2 ..) ?_
    refine Ev_pos (by omega) (Ev_pos (by omega) (Ev_pos (by omega) ?_))
    rw [rd_at xs i x l hd]
    have tail : ∀ pre : List S34, pre = (if x.f2 = 0 ∧ x.f3 = true then [⟨x.f0, 0, true⟩] else []) → Ev (fun k => pump_Plan.j2 k left most (out ++ pre) xs (xs.length : Int) (i : Int) x.f0 x.f1 x.f2 x.f3) (out ++ plan most left (x :: l)) := by
      intro pre hpre
      have hpl : pre.length ≤ 1 := by rw [hpre]; split <;> simp
      refine Ev.step (fun k => pump_Plan.j2.eq_2 ..) ?_
      refine l1_ev most x.f0 x.f3 xs _ _ x.f2.toNat left x.f1 x.f2 _ hl r1 r2 (by omega) (by simp; omega) ?_
      rw [wid (by omega) (by omega)]
      have e1 : (i : Int) + 1 = ((i + 1 : Nat) : Int) := by omega
      rw [e1]
      have := ih (i + 1) (go most x.f0 x.f3 x.f2.toNat left x.f1 x.f2).2 (out ++ pre ++ (go most x.f0 x.f3 x.f2.toNat left x.f1 x.f2).1) hnext (go_left _ _ _ _ _ _ _ hl) (by simp; omega)
      have e2 : out ++ plan most left (x :: l) = out ++ pre ++ (go most x.f0 x.f3 x.f2.toNat left x.f1 x.f2).1 ++ plan most (go most x.f0 x.f3 x.f2.toNat left x.f1 x.f2).2 l := by
        simp [plan, part, hpre, List.append_assoc]
      rw [e2]
      exact this
    have j1 : ∀ q : Bool, q = decide (x.f2 = 0 ∧ x.f3 = true) → Ev (fun k => pump_Plan.j1 k left most out xs (xs.length : Int) (i : Int) q x.f0 x.f1 x.f2 x.f3) (out ++ plan most left (x :: l)) := by
      intro q hq
      refine Ev.step (fun k => pump_Plan.j1.eq_2 ..) ?_
      cases q with
      | true =>
        have := of_decide_eq_true hq.symm
        exact Ev_pos rfl (Ev_pos (by omega) (tail _ (by rw [if_pos this])))
      | false =>
        have := of_decide_eq_false hq.symm
        have t := tail [] (by rw [if_neg this])
        rw [List.append_nil] at t
        exact Ev_neg (by simp) t
    by_cases h0 : x.f2 = 0
    · exact Ev_pos h0 (j1 _ (by simp [h0]))
    · exact Ev_neg h0 (j1 _ (by simp [h0]))
theorem plan_ev (left most : Int) (xs : List S26) (hL : ∀ x ∈ xs, Lim x) (hlen : xs.length ≤ 1000000) (hl : Rg left) : Ev (fun k => pump_Plan.f k left most xs) (plan most left xs) := by
  have := l0_ev most xs hL hlen xs 0 left [] rfl hl (by simp; omega)
  simpa [pump_Plan.f] using this
/-- How much a part sends. -/
def much (most left lft pend : Int) : Int := if most < 1 then 0 else max (min (min pend lft) left) 0
theorem go_sum (most id : Int) (e : Bool) (d : Nat) : ∀ left lft pend : Int, pend ≤ d → sumN (go most id e d left lft pend).1 = much most left lft pend ∧ (go most id e d left lft pend).2 = left - much most left lft pend := by
  induction d with
  | zero =>
    intro left lft pend h
    simp only [go, sumN, much, List.map_nil, List.sum_nil]
    split <;> omega
  | succ d ih =>
    intro left lft pend h
    have a1 := mn_le pend lft
    have a2 := mn_le (mn pend lft) left
    have a3 := mn_le (mn (mn pend lft) left) most
    have := ih (left - mn (mn (mn pend lft) left) most) (lft - mn (mn (mn pend lft) left) most) (pend - mn (mn (mn pend lft) left) most)
    simp only [go]
    split
    · have := this (by omega)
      simp only [sumN, List.map_cons, List.sum_cons] at *
      rw [this.1, this.2]
      unfold much
      split <;> omega
    · simp only [sumN, much, List.map_nil, List.sum_nil]
      split <;> omega
theorem go_pos (most id : Int) (e : Bool) (d : Nat) : ∀ left lft pend : Int, ∀ s ∈ (go most id e d left lft pend).1, s.f0 = id ∧ 0 < s.f1 ∧ s.f1 ≤ most := by
  induction d with
  | zero => intro left lft pend s hs; simp [go] at hs
  | succ d ih =>
    intro left lft pend s hs
    have a3 := mn_le (mn (mn pend lft) left) most
    simp only [go] at hs
    split at hs
    · rcases List.mem_cons.1 hs with rfl | hs
      · exact ⟨rfl, by assumption, a3.2.1⟩
      · exact ih _ _ _ s hs
    · cases hs
theorem sum_run (l : List S34) (hb : ∀ s ∈ l, 0 ≤ s.f1 ∧ s.f1 ≤ 100000) (hl : l.length ≤ 1000000) (d : Nat) : ∀ (i : Nat) (acc : Int), l.length - i = d → 0 ≤ acc → acc ≤ 100000 * i → Ev (fun k => pump_Sum.l0 k acc l (l.length : Int) (i : Int)) (acc + sumN (l.drop i)) := by
  induction d with
  | zero =>
    intro i acc hd _ _
    refine Ev.step (fun k => pump_Sum.l0.eq_2 ..) ?_
    refine Ev_neg (by omega) ?_
    exact Ev_some (by rw [List.drop_eq_nil_of_le (by omega)]; simp [sumN])
  | succ d ih =>
    intro i acc hd h0 h1
    have hi : i < l.length := by omega
    have hs := hb l[i] (List.getElem_mem hi)
    have e1 : rd_T34 l (i : Int) = l[i] := by simp [rd_T34, List.getD, hi]
    have e2 : sumN (l.drop i) = l[i].f1 + sumN (l.drop (i + 1)) := by rw [List.drop_eq_getElem_cons hi]; simp only [sumN, List.map_cons, List.sum_cons]
    refine Ev.step (fun k => pump_Sum.l0.eq_2 ..) ?_
    refine Ev_pos (by omega) (Ev_pos (by omega) (Ev_pos (by omega) ?_))
    rw [e1, wid (x := acc + l[i].f1) (by omega) (by omega), wid (x := (i : Int) + 1) (by omega) (by omega), e2, ← Int.add_assoc]
    exact ih (i + 1) (acc + l[i].f1) (by omega) (by omega) (by omega)
theorem sum_ev (l : List S34) (hb : ∀ s ∈ l, 0 ≤ s.f1 ∧ s.f1 ≤ 100000) (hl : l.length ≤ 1000000) : Ev (fun k => pump_Sum.f k l) (sumN l) := by
  have := sum_run l hb hl l.length 0 0 (by omega) (by omega) (by omega)
  simpa [pump_Sum.f] using this
theorem alive_ev : Ev (fun k => bywashlaw16_alive.f k) true := by
  unfold bywashlaw16_alive.f
  have hb : plan 64 100 [⟨1, 100, 80, true⟩] = [⟨1, 64, false⟩, ⟨1, 16, true⟩] := by simp [plan, part, go, mn]
  have h := plan_ev 100 64 [⟨1, 100, 80, true⟩] (by intro x hx; simp at hx; subst hx; simp [Lim, Rg]) (by simp) (by simp [Rg])
  rw [hb] at h
  refine Ev.bind h ?_
  refine Ev_pos rfl (Ev_pos (by simp) (Ev_pos rfl (Ev_pos (by simp) (Ev_pos rfl ?_))))
  exact Ev.bind (sum_ev _ (by intro s hs; simp at hs; rcases hs with rfl | rfl <;> simp) (by simp)) (Ev_some rfl)
theorem go_small (most id : Int) (e : Bool) (d : Nat) : ∀ left lft pend : Int, ∀ s ∈ (go most id e d left lft pend).1, 0 < s.f1 ∧ s.f1 ≤ pend := by
  induction d with
  | zero => intro left lft pend s hs; simp [go] at hs
  | succ d ih =>
    intro left lft pend s hs
    have a1 := mn_le pend lft
    have a2 := mn_le (mn pend lft) left
    have a3 := mn_le (mn (mn pend lft) left) most
    simp only [go] at hs
    split at hs
    · rcases List.mem_cons.1 hs with rfl | hs
      · exact ⟨by assumption, by show mn (mn (mn pend lft) left) most ≤ pend; omega⟩
      · have := ih _ _ _ s hs
        omega
    · cases hs
theorem plan_small (most : Int) (l : List S26) : ∀ left : Int, (∀ x ∈ l, Lim x) → ∀ s ∈ plan most left l, 0 ≤ s.f1 ∧ s.f1 ≤ 100000 := by
  induction l with
  | nil => intro left _ s hs; cases hs
  | cons x l ih =>
    intro left hL s hs
    have hx := hL x (by simp)
    simp only [plan, part, List.mem_append] at hs
    rcases hs with (hs | hs) | hs
    · split at hs
      · simp at hs; subst hs; simp
      · cases hs
    · have := go_small most x.f0 x.f3 _ left x.f1 x.f2 s hs
      have := hx.2.2
      omega
    · exact ih _ (fun y hy => hL y (by simp [hy])) s hs
theorem plan_len (most : Int) (l : List S26) : ∀ left : Int, (∀ x ∈ l, Lim x) → (plan most left l).length ≤ l.length * 4001 := by
  induction l with
  | nil => intro left _; simp [plan]
  | cons x l ih =>
    intro left hL
    have hx := hL x (by simp)
    have h1 := go_len most x.f0 x.f3 x.f2.toNat left x.f1 x.f2
    have h2 := ih (part most left x).2 (fun y hy => hL y (by simp [hy]))
    have h3 : (if x.f2 = 0 ∧ x.f3 = true then [(⟨x.f0, 0, true⟩ : S34)] else []).length ≤ 1 := by split <;> simp
    have := hx.2.2
    simp only [plan, part, List.length_append, List.length_cons] at *
    omega
theorem sumN_append (a b : List S34) : sumN (a ++ b) = sumN a + sumN b := by simp [sumN]
theorem sumN_part (most left : Int) (x : S26) : sumN (part most left x).1 = much most left x.f1 x.f2 ∧ (part most left x).2 = left - much most left x.f1 x.f2 := by
  have h := go_sum most x.f0 x.f3 x.f2.toNat left x.f1 x.f2 (by omega)
  unfold part
  rw [sumN_append, h.1, h.2]
  refine ⟨?_, rfl⟩
  split <;> simp [sumN]

theorem light_l0 (xs : List S26) (hlen : xs.length ≤ 4398046511104) (d : Nat) : ∀ i : Nat, xs.length - i = d → ∃ b : Bool, Ev (fun k => bywashlaw16_Light.l0 k xs xs (xs.length : Int) (i : Int)) b ∧ (b = true → xs.length ≤ 30 ∧ ∀ x ∈ xs.drop i, x.f2 ≤ 4000) := by
  induction d with
  | zero =>
    intro i hd
    refine ⟨decide ((xs.length : Int) ≤ 30), ?_, fun h => ⟨by have := of_decide_eq_true h; omega, by rw [List.drop_eq_nil_of_le (by omega)]; simp⟩⟩
    refine Ev.step (fun k => bywashlaw16_Light.l0.eq_2 ..) ?_
    exact Ev_neg (by omega) (Ev_some rfl)
  | succ d ih =>
    intro i hd
    have hi : i < xs.length := by omega
    have e1 : rd_T26 xs (i : Int) = xs[i] := by simp [rd_T26, List.getD, hi]
    by_cases h4 : xs[i].f2 > 4000
    · refine ⟨false, ?_, by simp⟩
      refine Ev.step (fun k => bywashlaw16_Light.l0.eq_2 ..) ?_
      refine Ev_pos (by omega) (Ev_pos (by omega) (Ev_pos (by omega) ?_))
      rw [e1]
      exact Ev_pos h4 (Ev_some rfl)
    · obtain ⟨b, hb, h⟩ := ih (i + 1) (by omega)
      refine ⟨b, ?_, fun hb => ⟨(h hb).1, ?_⟩⟩
      · refine Ev.step (fun k => bywashlaw16_Light.l0.eq_2 ..) ?_
        refine Ev_pos (by omega) (Ev_pos (by omega) (Ev_pos (by omega) ?_))
        rw [e1]
        refine Ev_neg h4 ?_
        rw [wid (by omega) (by omega)]
        exact hb
      · rw [List.drop_eq_getElem_cons hi]
        intro x hx
        rcases List.mem_cons.1 hx with rfl | hx
        · omega
        · exact (h hb).2 x hx
theorem light_ev (a : Int) (xs : List S26) (hlen : xs.length ≤ 4398046511104) : ∃ b : Bool, Ev (fun k => bywashlaw16_Light.f k a xs) b ∧ (b = true → xs.length ≤ 30 ∧ ∀ x ∈ xs, x.f2 ≤ 4000) := by
  have := light_l0 xs hlen xs.length 0 (by omega)
  simpa [bywashlaw16_Light.f] using this

theorem cat_at (pre B post : List S34) (j : Nat) (h : j < B.length) : rd_T34 (pre ++ B ++ post) ((pre.length : Int) + (j : Int)) = B[j] := by
  have e : ((pre.length : Int) + (j : Int)).toNat = pre.length + j := by omega
  simp only [rd_T34, List.getD, e]
  rw [List.append_assoc, List.getElem?_append_right (by omega), List.getElem?_append_left (by omega)]
  rw [Nat.add_sub_cancel_left, List.getElem?_eq_getElem h]
  rfl
def Later (id : Int) (l : List S34) : Prop := ∀ s ∈ l, id < s.f0
theorem plan_later (most : Int) (id : Int) (l : List S26) : ∀ left : Int, (∀ x ∈ l, id < x.f0) → Later id (plan most left l) := by
  induction l with
  | nil => intro left _ s hs; cases hs
  | cons x l ih =>
    intro left hx s hs
    have h0 := hx x (by simp)
    simp only [plan, part, List.mem_append] at hs
    rcases hs with (hs | hs) | hs
    · split at hs
      · rw [List.mem_singleton] at hs; subst hs; exact h0
      · cases hs
    · rw [(go_pos most x.f0 x.f3 _ left x.f1 x.f2 s hs).1]; exact h0
    · exact ih _ (fun y hy => hx y (by simp [hy])) s hs
/-- Behind a part's own slices the next round begins. -/
theorem fits_j6 (most left id lft pend n : Int) (e ended : Bool) (k0 : Int) (a : List S34) (xs : List S26) (i : Int) (hi : -9223372036854775808 ≤ i + 1 ∧ i + 1 ≤ 9223372036854775807) (hn : n = much most left lft pend) (he : ended = (decide (n = pend) && e))
    (hr : Rg (left - n))
    (h : Ev (fun k => bywashlaw16_PumpFits.l1 k most k0 a (left - n) xs (xs.length : Int) (i + 1)) true) :
    Ev (fun k => bywashlaw16_PumpFits.j6 k most k0 a left n ended xs (xs.length : Int) i id lft pend e) true := by
  refine Ev.step (fun k => bywashlaw16_PumpFits.j6.eq_2 ..) ?_
  rw [wid (x := left - n) hr.1 hr.2, wid (x := i + 1) hi.1 hi.2]
  have eM : mx (mn (mn pend lft) left) 0 = max (min (min pend lft) left) 0 := by rw [mx_eq, mn_eq, mn_eq]
  have fin : Ev (fun k => if e = true then (if (ended != (n == pend)) = true then (some false) else (bywashlaw16_PumpFits.l1 k most k0 a (left - n) xs (xs.length : Int) (i + 1))) else (if (ended != false) = true then (some false) else (bywashlaw16_PumpFits.l1 k most k0 a (left - n) xs (xs.length : Int) (i + 1)))) true := by
    cases e with
    | true =>
      refine Ev_pos rfl (Ev_neg ?_ h)
      rw [he]
      by_cases hq : n = pend <;> simp [hq]
    | false => exact Ev_neg (by simp) (Ev_neg (by rw [he]; simp) h)
  by_cases hm : most < 1
  · refine Ev_pos hm (Ev_pos ?_ fin)
    rw [hn]; unfold much; rw [if_pos hm]
  · refine Ev_neg hm (Ev_pos ?_ fin)
    rw [hn, eM]; unfold much; rw [if_neg hm]
/-- The slices of one part, told one by one. -/
theorem fits_l2 (most id : Int) (e : Bool) (left0 lft0 pend0 : Int) (hp0 : pend0 ≠ 0) (hr0 : Rg left0) (hr0' : pend0 ≤ 4000) (hr1 : Rg most) (xs : List S26) (i : Int) (post : List S34) (hpost : Later id post) (a : List S34) (ha : a.length ≤ 1000000) (k1 : Nat)
    (hi : -9223372036854775808 ≤ i + 1 ∧ i + 1 ≤ 9223372036854775807) (hr : Rg (left0 - much most left0 lft0 pend0))
    (h : Ev (fun k => bywashlaw16_PumpFits.l1 k most (k1 : Int) a (left0 - much most left0 lft0 pend0) xs (xs.length : Int) (i + 1)) true) (d : Nat) :
    ∀ (n : Int) (pre : List S34), a = pre ++ (go most id e d (left0 - n) (lft0 - n) (pend0 - n)).1 ++ post → k1 = pre.length + (go most id e d (left0 - n) (lft0 - n) (pend0 - n)).1.length → pend0 - n ≤ d → 0 ≤ n → (n = 0 ∨ n < much most left0 lft0 pend0) →
      Ev (fun k => bywashlaw16_PumpFits.l2 k most (pre.length : Int) a left0 n false xs (xs.length : Int) i id lft0 pend0 e) true := by
  induction d with
  | zero =>
    intro n pre hA hk hd h0 hn
    have hmuch : much most left0 lft0 pend0 = 0 := by
      rcases hn with rfl | hn
      · unfold much; split <;> omega
      · exfalso; unfold much at hn; split at hn <;> omega
    obtain rfl : n = 0 := by omega
    simp only [go, List.append_nil, List.length_nil, Nat.add_zero] at hA hk
    subst hk
    have hj4 : Ev (fun k => bywashlaw16_PumpFits.j4 k most (pre.length : Int) a left0 0 false xs (xs.length : Int) i false id lft0 pend0 e) true := by
      refine Ev.step (fun k => bywashlaw16_PumpFits.j4.eq_2 ..) ?_
      refine Ev_neg (by simp) ?_
      refine fits_j6 most left0 id lft0 pend0 0 e false _ a xs i hi hmuch.symm ?_ ?_ ?_
      · rw [decide_eq_false (by omega), Bool.false_and]
      · rw [hmuch] at hr; exact hr
      · rw [hmuch] at h; exact h
    refine Ev.step (fun k => bywashlaw16_PumpFits.l2.eq_2 ..) ?_
    refine Ev_ite (fun hlt => Ev_pos (by omega) ?_) (fun _ => hj4)
    refine Ev_neg ?_ hj4
    have hpl : 0 < post.length := by rw [hA, List.length_append] at hlt; omega
    have := cat_at pre post [] 0 hpl
    rw [List.append_nil] at this
    rw [hA, show ((pre.length : Int)) = (pre.length : Int) + ((0 : Nat) : Int) by simp, this]
    have := hpost _ (List.getElem_mem hpl)
    omega
  | succ d ih =>
    intro n pre hA hk hd h0 hn
    have e0 : mn (mn (mn (pend0 - n) (lft0 - n)) (left0 - n)) most = min (min (min (pend0 - n) (lft0 - n)) (left0 - n)) most := by rw [mn_eq, mn_eq, mn_eq]
    by_cases hc : mn (mn (mn (pend0 - n) (lft0 - n)) (left0 - n)) most > 0
    · have eg : (go most id e (d + 1) (left0 - n) (lft0 - n) (pend0 - n)).1 = ⟨id, mn (mn (mn (pend0 - n) (lft0 - n)) (left0 - n)) most, decide (pend0 - n - mn (mn (mn (pend0 - n) (lft0 - n)) (left0 - n)) most = 0) && e⟩ :: (go most id e d (left0 - n - mn (mn (mn (pend0 - n) (lft0 - n)) (left0 - n)) most) (lft0 - n - mn (mn (mn (pend0 - n) (lft0 - n)) (left0 - n)) most) (pend0 - n - mn (mn (mn (pend0 - n) (lft0 - n)) (left0 - n)) most)).1 := by
        simp only [go]; rw [if_pos hc]
      rw [eg] at hA hk
      generalize hm : mn (mn (mn (pend0 - n) (lft0 - n)) (left0 - n)) most = m at *
      have hmuch : much most left0 lft0 pend0 = min (min pend0 lft0) left0 := by unfold much; rw [if_neg (by omega)]; omega
      have ec : ∀ z : Int, z - n - m = z - (n + m) := fun z => by omega
      rw [ec, ec, ec] at hA hk
      have hrd : rd_T34 a (pre.length : Int) = ⟨id, m, decide (pend0 - (n + m) = 0) && e⟩ := by
        have := cat_at pre (⟨id, m, decide (pend0 - (n + m) = 0) && e⟩ :: (go most id e d (left0 - (n + m)) (lft0 - (n + m)) (pend0 - (n + m))).1) post 0 (by simp)
        rw [hA]
        simpa using this
      have hlt : (pre.length : Int) < (a.length : Int) := by rw [hA]; simp; omega
      have ew1 : wrap64 ((pre.length : Int) + 1) = ((pre ++ [(⟨id, m, decide (pend0 - (n + m) = 0) && e⟩ : S34)]).length : Int) := by
        rw [wid (by omega) (by omega)]; simp
      have ew2 : wrap64 (n + m) = n + m := wid (by omega) (by omega)
      have eM : mn (mn pend0 lft0) left0 = min (min pend0 lft0) left0 := by rw [mn_eq, mn_eq]
      refine Ev.step (fun k => bywashlaw16_PumpFits.l2.eq_2 ..) ?_
      refine Ev_pos hlt (Ev_pos (by omega) ?_)
      rw [hrd]
      refine Ev_pos rfl (Ev_neg (by simp) (Ev_pos hc ?_))
      refine Ev.step (fun k => bywashlaw16_PumpFits.j4.eq_2 ..) ?_
      refine Ev_pos rfl (Ev_pos (by omega) (Ev_pos hlt ?_))
      rw [hrd]
      refine Ev_neg (by show ¬ m < 0; omega) ?_
      refine Ev.step (fun k => bywashlaw16_PumpFits.j5.eq_2 ..) ?_
      have hmx := mx_eq most 0
      refine Ev_neg (by show ¬ decide (m > mx most 0) = true; rw [decide_eq_false (by omega)]; simp) ?_
      refine Ev_pos (by omega) (Ev_pos hlt (Ev_neg hp0 ?_))
      rw [hrd, ew1]
      show Ev (fun k => if wrap64 (n + m) = _ then _ else _) true
      rw [ew2, eM]
      by_cases hlast : n + m = min (min pend0 lft0) left0
      · refine Ev_pos hlast ?_
        have hnil : (go most id e d (left0 - (n + m)) (lft0 - (n + m)) (pend0 - (n + m))).1 = [] := by
          have h3 : mn (mn (mn (pend0 - (n + m)) (lft0 - (n + m))) (left0 - (n + m))) most ≤ 0 := by rw [mn_eq, mn_eq, mn_eq]; omega
          cases d with
          | zero => rfl
          | succ d => simp only [go]; rw [if_neg (by omega)]
        rw [hnil] at hA hk
        have hk' : (k1 : Int) = ((pre ++ [(⟨id, m, decide (pend0 - (n + m) = 0) && e⟩ : S34)]).length : Int) := by rw [hk, List.length_append]
        rw [← hk']
        refine fits_j6 most left0 id lft0 pend0 (n + m) e _ _ a xs i hi (by omega) ?_ ?_ ?_
        · show (decide (pend0 - (n + m) = 0) && e) = (decide (n + m = pend0) && e)
          have : (pend0 - (n + m) = 0) ↔ (n + m = pend0) := by omega
          rw [decide_eq_decide.2 this]
        · rw [hlast, ← hmuch]; exact hr
        · rw [hlast, ← hmuch]; exact h
      · refine Ev_neg hlast ?_
        show Ev (fun k => bywashlaw16_PumpFits.l2 k most _ a left0 (n + m) (decide (pend0 - (n + m) = 0) && e) xs (xs.length : Int) i id lft0 pend0 e) true
        rw [decide_eq_false (show ¬ pend0 - (n + m) = 0 by omega), Bool.false_and]
        rw [decide_eq_false (show ¬ pend0 - (n + m) = 0 by omega), Bool.false_and] at hA
        exact ih (n + m) _ (by rw [hA]; simp) (by rw [hk]; simp; omega) (by omega) (by omega) (.inr (by rw [hmuch]; omega))
    · have eg : (go most id e (d + 1) (left0 - n) (lft0 - n) (pend0 - n)).1 = [] := by
        simp only [go]; rw [if_neg hc]
      have hmuch : much most left0 lft0 pend0 = 0 := by
        rcases hn with rfl | hn
        · unfold much; split <;> omega
        · exfalso; unfold much at hn; split at hn <;> omega
      obtain rfl : n = 0 := by omega
      rw [eg] at hA hk
      simp only [List.append_nil, List.length_nil, Nat.add_zero] at hA hk
      subst hk
      have hj4 : Ev (fun k => bywashlaw16_PumpFits.j4 k most (pre.length : Int) a left0 0 false xs (xs.length : Int) i false id lft0 pend0 e) true := by
        refine Ev.step (fun k => bywashlaw16_PumpFits.j4.eq_2 ..) ?_
        refine Ev_neg (by simp) ?_
        refine fits_j6 most left0 id lft0 pend0 0 e false _ a xs i hi hmuch.symm ?_ ?_ ?_
        · rw [decide_eq_false (by omega), Bool.false_and]
        · rw [hmuch] at hr; exact hr
        · rw [hmuch] at h; exact h
      refine Ev.step (fun k => bywashlaw16_PumpFits.l2.eq_2 ..) ?_
      refine Ev_ite (fun hlt => Ev_pos (by omega) ?_) (fun _ => hj4)
      refine Ev_neg ?_ hj4
      have hpl : 0 < post.length := by rw [hA, List.length_append] at hlt; omega
      have := cat_at pre post [] 0 hpl
      rw [List.append_nil] at this
      rw [hA, show ((pre.length : Int)) = (pre.length : Int) + ((0 : Nat) : Int) by simp, this]
      have := hpost _ (List.getElem_mem hpl)
      omega
theorem go_nopend (most id : Int) (e : Bool) (left lft : Int) : (go most id e (0 : Int).toNat left lft 0).1 = [] := rfl
theorem fits_l1 (most : Int) (hmost : Rg most) (xs : List S26) (hL : ∀ x ∈ xs, Lim x) (hlen : xs.length ≤ 30) (a : List S34) (ha : a.length ≤ 1000000) (l : List S26) :
    ∀ (i : Nat) (left : Int) (pre : List S34), xs.drop i = l → l.Pairwise (fun x y => x.f0 < y.f0) → a = pre ++ plan most left l → Rg left →
      Ev (fun k => bywashlaw16_PumpFits.l1 k most (pre.length : Int) a left xs (xs.length : Int) (i : Int)) true := by
  induction l with
  | nil =>
    intro i left pre hd _ hA _
    have hi : xs.length ≤ i := by
      rcases Nat.lt_or_ge i xs.length with h | h
      · have := List.length_drop (i := i) (l := xs); rw [hd] at this; simp at this; omega
      · exact h
    refine Ev.step (fun k => bywashlaw16_PumpFits.l1.eq_2 ..) ?_
    refine Ev_neg (by omega) (Ev_some ?_)
    rw [hA]; simp [plan]
  | cons x l ih =>
    intro i left pre hd hw hA hl
    have hi : i < xs.length := by
      rcases Nat.lt_or_ge i xs.length with h | h
      · exact h
      · rw [List.drop_eq_nil_of_le h] at hd; cases hd
    have hx : x ∈ xs := by
      have : x ∈ xs.drop i := by rw [hd]; simp
      exact List.mem_of_mem_drop this
    obtain ⟨r1, r2, r3⟩ := hL x hx
    have hnext : xs.drop (i + 1) = l := by
      have := congrArg (·.drop 1) hd
      simpa [Nat.add_comm] using this
    obtain ⟨hw1, hw2⟩ := List.pairwise_cons.1 hw
    have hsum := go_sum most x.f0 x.f3 x.f2.toNat left x.f1 x.f2 (by omega)
    have hgl := go_left most x.f0 x.f3 x.f2.toNat left x.f1 x.f2 hl
    have hlat := plan_later most x.f0 l (part most left x).2 hw1
    have hp2 : (part most left x).2 = left - much most left x.f1 x.f2 := (sumN_part most left x).2
    have hrec := ih (i + 1) (part most left x).2 (pre ++ (part most left x).1) hnext hw2 (by rw [hA]; simp [plan]) (by rw [hp2, ← hsum.2]; exact hgl)
    rw [hp2] at hrec hlat
    have e1 : ((i + 1 : Nat) : Int) = (i : Int) + 1 := by omega
    rw [e1] at hrec
    refine Ev.step (fun k => bywashlaw16_PumpFits.l1.eq_2 ..) ?_
    refine Ev_pos (by omega) (Ev_pos (by omega) (Ev_pos (by omega) ?_))
    rw [rd_at xs i x l hd]
    have hr : Rg (left - much most left x.f1 x.f2) := by rw [← hsum.2]; exact hgl
    by_cases hz : x.f2 = 0
    · have hmuch : much most left x.f1 x.f2 = 0 := by unfold much; split <;> omega
      rw [hmuch, Int.sub_zero] at hrec hlat
      have ego : (go most x.f0 x.f3 x.f2.toNat left x.f1 x.f2).1 = [] := by rw [hz]; rfl
      by_cases h3 : x.f3 = true
      · have epart : (part most left x).1 = [⟨x.f0, 0, true⟩] := by simp only [part]; rw [if_pos ⟨hz, h3⟩, ego]; rfl
        rw [epart] at hrec
        have hA' : a = pre ++ [⟨x.f0, 0, true⟩] ++ plan most left l := by rw [hA]; simp only [plan, epart, hp2, hmuch, Int.sub_zero]; simp
        have hrd : rd_T34 a (pre.length : Int) = ⟨x.f0, 0, true⟩ := by
          have := cat_at pre [⟨x.f0, 0, true⟩] (plan most left l) 0 (by simp)
          rw [hA']; simpa using this
        have hlt : (pre.length : Int) < (a.length : Int) := by rw [hA']; simp; omega
        have hmx := mx_ge most 0
        refine Ev.step (fun k => bywashlaw16_PumpFits.l2.eq_2 ..) ?_
        refine Ev_pos hlt (Ev_pos (by omega) ?_)
        rw [hrd]
        refine Ev_pos rfl (Ev_neg (by simp) (Ev_neg (by simp) ?_))
        refine Ev.step (fun k => bywashlaw16_PumpFits.j4.eq_2 ..) ?_
        refine Ev_pos (by simp [hz]) (Ev_pos (by omega) (Ev_pos hlt ?_))
        rw [hrd]
        refine Ev_neg (by simp) ?_
        refine Ev.step (fun k => bywashlaw16_PumpFits.j5.eq_2 ..) ?_
        refine Ev_neg (by show ¬ decide ((0 : Int) > mx most 0) = true; rw [decide_eq_false (by omega)]; simp) ?_
        refine Ev_pos (by omega) (Ev_pos hlt (Ev_pos hz ?_))
        rw [hrd, wid (x := (pre.length : Int) + 1) (by omega) (by omega)]
        show Ev (fun k => bywashlaw16_PumpFits.j6 k most ((pre.length : Int) + 1) a left (wrap64 (0 + 0)) true xs (xs.length : Int) (i : Int) x.f0 x.f1 x.f2 x.f3) true
        rw [show wrap64 (0 + 0) = 0 by unfold wrap64; omega]
        refine fits_j6 most left x.f0 x.f1 x.f2 0 x.f3 true _ a xs i ⟨by omega, by omega⟩ hmuch.symm (by rw [decide_eq_true (by omega), h3]; rfl) (by rw [Int.sub_zero]; exact hl) ?_
        rw [Int.sub_zero]
        simpa using hrec
      · have epart : (part most left x).1 = [] := by simp only [part]; rw [if_neg (by simp [h3]), ego]; rfl
        rw [epart, List.append_nil] at hrec
        have hA' : a = pre ++ plan most left l := by rw [hA]; simp only [plan, epart, hp2, hmuch, Int.sub_zero]; simp
        have hj4 : Ev (fun k => bywashlaw16_PumpFits.j4 k most (pre.length : Int) a left 0 false xs (xs.length : Int) (i : Int) false x.f0 x.f1 x.f2 x.f3) true := by
          refine Ev.step (fun k => bywashlaw16_PumpFits.j4.eq_2 ..) ?_
          refine Ev_neg (by simp) ?_
          refine fits_j6 most left x.f0 x.f1 x.f2 0 x.f3 false _ a xs i ⟨by omega, by omega⟩ hmuch.symm (by simp [h3]) (by rw [Int.sub_zero]; exact hl) ?_
          rw [Int.sub_zero]
          exact hrec
        refine Ev.step (fun k => bywashlaw16_PumpFits.l2.eq_2 ..) ?_
        refine Ev_ite (fun hlt => Ev_pos (by omega) ?_) (fun _ => hj4)
        refine Ev_neg ?_ hj4
        have hpl : 0 < (plan most left l).length := by rw [hA', List.length_append] at hlt; omega
        have := cat_at pre (plan most left l) [] 0 hpl
        rw [List.append_nil] at this
        rw [hA', show ((pre.length : Int)) = (pre.length : Int) + ((0 : Nat) : Int) by simp, this]
        have := hlat _ (List.getElem_mem hpl)
        omega
    · have epart : (part most left x).1 = (go most x.f0 x.f3 x.f2.toNat left x.f1 x.f2).1 := by simp only [part]; rw [if_neg (by simp [hz])]; rfl
      rw [epart] at hrec
      have hA' : a = pre ++ (go most x.f0 x.f3 x.f2.toNat left x.f1 x.f2).1 ++ plan most (left - much most left x.f1 x.f2) l := by rw [hA]; simp only [plan, epart, hp2]; simp
      have := fits_l2 most x.f0 x.f3 left x.f1 x.f2 hz hl r3 hmost xs (i : Int) (plan most (left - much most left x.f1 x.f2) l) hlat a ha (pre.length + (go most x.f0 x.f3 x.f2.toNat left x.f1 x.f2).1.length) ⟨by omega, by omega⟩ hr
        (by rw [List.length_append] at hrec; exact hrec) x.f2.toNat 0 pre (by simpa using hA') (by simp) (by omega) (by omega) (.inl rfl)
      exact this
theorem fits_l0 (left most : Int) (hl : Rg left) (hm : Rg most) (xs : List S26) (hL : ∀ x ∈ xs, Lim x) (hlen : xs.length ≤ 30) (d : Nat) :
    ∀ i : Nat, 1 ≤ i → xs.length - i = d → (xs.take i).Pairwise (fun x y => x.f0 < y.f0) → Ev (fun k => bywashlaw16_PumpFits.l0 k left most xs (i : Int)) true := by
  induction d with
  | zero =>
    intro i h1 hd hw
    rw [List.take_of_length_le (by omega)] at hw
    refine Ev.step (fun k => bywashlaw16_PumpFits.l0.eq_2 ..) ?_
    refine Ev_neg (by omega) (Ev.bind (plan_ev left most xs hL (by omega) hl) ?_)
    exact fits_l1 most hm xs hL hlen (plan most left xs) (by have := plan_len most xs left hL; omega) xs 0 left [] rfl hw rfl hl
  | succ d ih =>
    intro i h1 hd hw
    have hi : i < xs.length := by omega
    have e1 : rd_T26 xs (i : Int) = xs[i] := by simp [rd_T26, List.getD, hi]
    have e2 : rd_T26 xs ((i : Int) - 1) = xs[i - 1] := by
      have : ((i : Int) - 1).toNat = i - 1 := by omega
      simp only [rd_T26, List.getD, this]
      rw [List.getElem?_eq_getElem (by omega)]
      rfl
    refine Ev.step (fun k => bywashlaw16_PumpFits.l0.eq_2 ..) ?_
    rw [wid (x := (i : Int) - 1) (by omega) (by omega), wid (x := (i : Int) + 1) (by omega) (by omega)]
    refine Ev_pos (by omega) (Ev_pos (by omega) (Ev_pos (by omega) (Ev_pos (by omega) ?_)))
    rw [e1, e2]
    refine Ev_ite (fun _ => Ev_some rfl) fun hc => ?_
    refine ih (i + 1) (by omega) (by omega) ?_
    have et : xs.take (i + 1) = xs.take i ++ [xs[i]] := by rw [List.take_succ_eq_append_getElem hi]
    rw [et]
    refine List.pairwise_append.2 ⟨hw, by simp, fun x hx y hy => ?_⟩
    rw [List.mem_singleton] at hy; subst hy
    have hxl : x.f0 ≤ xs[i - 1].f0 := by
      have es : xs.take i = xs.take (i - 1) ++ [xs[i - 1]] := by
        have := List.take_succ_eq_append_getElem (l := xs) (i := i - 1) (by omega)
        rwa [show i - 1 + 1 = i by omega] at this
      rw [es] at hx hw
      rcases List.mem_append.1 hx with h | h
      · have := (List.pairwise_append.1 hw).2.2 x h xs[i - 1] (by simp)
        omega
      · rw [List.mem_singleton] at h; subst h; omega
    omega
theorem j0_true (left a : Int) (xs : List S26) : Ev (fun k => bywashlaw16_PumpFits.j0 k left a xs true) true := by
  refine Ev.step (fun k => bywashlaw16_PumpFits.j0.eq_2 ..) ?_
  exact Ev_pos rfl (Ev.bind alive_ev (Ev.now _))
theorem PumpFits : StaPumpFits.Pure := by
  intro left most xs wl wm ⟨hml, hsz, hG⟩
  have hl := wf_range wl
  have hm := wf_range wm
  refine Ev.rounds ?_
  unfold bywashlaw16_PumpFits.f
  obtain ⟨b, hb, hbt⟩ := light_ev most xs (by omega)
  refine Ev.bind hb ?_
  cases b with
  | false => exact Ev_neg (by simp) (j0_true _ _ _)
  | true =>
    refine Ev_pos rfl (Ev.bind alive_ev ?_)
    refine Ev.step (fun k => bywashlaw16_PumpFits.j0.eq_2 ..) ?_
    refine Ev_neg (by simp) ?_
    obtain ⟨hl30, hp⟩ := hbt rfl
    have hL : ∀ x ∈ xs, Lim x := by
      intro x hx
      obtain ⟨_, g1, g2, _⟩ := hG x hx
      exact ⟨wf_range g1, wf_range g2, hp x hx⟩
    exact fits_l0 left most hl hm xs hL hl30 (xs.length - 1) 1 (by omega) rfl (by
      match xs with
      | [] => simp
      | x :: l => simp)

end Go.Proofs.Ytjjdhaphgnldaaa.Pure
