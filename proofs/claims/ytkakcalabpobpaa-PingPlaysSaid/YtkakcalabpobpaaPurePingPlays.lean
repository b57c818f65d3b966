/- Whatever ticks go by, whichever answers come: each ping, whether the other side is gone. Conditions: those of the statement itself. -/
import Derived.Test.YtkakcalabpobpaaPPingPlaysx0
import Derived.Test.YtkakcalabpobpaaPPingPlaysx1
import Derived.Test.YtkakcalabpobpaaPPingPlaysx2
import Derived.Test.YtkakcalabpobpaaPPingPlaysx3
import Derived.Test.YtkakcalabpobpaaPPingPlaysx4
import Derived.Test.YtkakcalabpobpaaStaPingPlays
import Derived.Test.YtkakcalabpobpaaAid
namespace Go.Proofs.Ytkakcalabpobpaa.Pure
open Go.RowKit Go.Proofs.YtkakcalabpobpaaW.PrintWords Go.Proofs.YtkakcalabpobpaaW.PrintLast Go.Proofs.YtkakcalabpobpaaW.PrintMore Go.Proofs.Ytkakcalabpobpaa.Aid Go.Proofs.Ytkakcalabpobpaa.PPingPlays Go.Proofs.Ytkakcalabpobpaa.StaPingPlays
set_option linter.unusedVariables false
set_option linter.unusedSimpArgs false

/-- The body of ping number n. -/
def nums8 (n : Int) : List Int := [shr .i64 n 56 % 256, shr .i64 n 48 % 256, shr .i64 n 40 % 256, shr .i64 n 32 % 256, shr .i64 n 24 % 256, shr .i64 n 16 % 256, shr .i64 n 8 % 256, shr .i64 n 0 % 256]
def bod (n : Int) : ByteArray := strOfNums (nums8 n)
theorem body_run (k : Nat) (e w t n : Int) (a b : Bool) : ping_Health_body.f (k + 9) e w t n a b = some (bod n, e, w, t, n, a, b) := by
  simp [ping_Health_body.f, ping_Health_body.l0, wrap64, bod, nums8]
theorem body_ev (e w t n : Int) (a b : Bool) : Ev (fun k => ping_Health_body.f k e w t n a b) (bod n, e, w, t, n, a, b) := Ev_from 9 fun k => body_run k e w t n a b
theorem bod_list (n : Int) : (bod n).toList = (nums8 n).map fun n => UInt8.ofNat n.toNat := by
  rw [ByteArray.toList_eq]; rfl
theorem nil_list : (⟨#[]⟩ : ByteArray).toList = ([] : List UInt8) := by rw [ByteArray.toList_eq]
theorem nil_list' : ((⟨#[]⟩ : ByteArray).toList != ([] : List UInt8)) = false := by rw [nil_list]; rfl
theorem bod_ne_nil (n : Int) : ¬ (bod n).toList = ([] : List UInt8) := by rw [bod_list]; simp [nums8]
theorem bod_ne_nil' (n : Int) : ((bod n).toList != ([] : List UInt8)) = true := bne_iff_ne.2 (bod_ne_nil n)
theorem shr0 (n : Int) : shr .i64 n 0 = n := by simp [shr]
theorem bod_ne (n m : Int) (h : n % 256 ≠ m % 256) : ¬ (bod n).toList = (bod m).toList := by
  rw [bod_list, bod_list]
  intro he
  have h8 := congrArg (fun l => (l.getD 7 0).toNat) he
  simp only [nums8, List.map_cons, List.map_nil, List.getD_cons_succ, List.getD_cons_zero, shr0, UInt8.toNat_ofNat'] at h8
  omega
theorem tick_gone (e w t n : Int) (a : Bool) (ht : 0 ≤ t) (ht' : t ≤ 1000000) : Ev (fun k => ping_Health_Tick.f k e w t n a true) (⟨#[]⟩, true, e, w, t + 1, n, a, true) := by
  unfold ping_Health_Tick.f
  refine Ev_pos rfl (Ev.step (fun k => ping_Health_Tick.j0.eq_2 ..) (Ev_pos rfl (Ev_some ?_)))
  rw [wid (by omega) (by omega)]
theorem tick_waits (e w t n : Int) (ht : 0 ≤ t) (ht' : t ≤ 1000000) (h : t + 1 < w) : Ev (fun k => ping_Health_Tick.f k e w t n true false) (⟨#[]⟩, false, e, w, t + 1, n, true, false) := by
  unfold ping_Health_Tick.f
  rw [wid (by omega) (by omega), decide_eq_false (by omega)]
  refine Ev_neg (by simp) (Ev_pos rfl ?_)
  exact Ev.step (fun k => ping_Health_Tick.j0.eq_2 ..) (Ev_neg (by simp) (Ev_pos rfl (Ev_some rfl)))
theorem tick_late (e w t n : Int) (ht : 0 ≤ t) (ht' : t ≤ 1000000) (h : w ≤ t + 1) : Ev (fun k => ping_Health_Tick.f k e w t n true false) (⟨#[]⟩, true, e, w, t + 1, n, true, true) := by
  unfold ping_Health_Tick.f
  rw [wid (by omega) (by omega), decide_eq_true (by omega)]
  refine Ev_neg (by simp) (Ev_pos rfl ?_)
  exact Ev.step (fun k => ping_Health_Tick.j0.eq_2 ..) (Ev_pos rfl (Ev_some rfl))
theorem tick_idle (e w t n : Int) (ht : 0 ≤ t) (ht' : t ≤ 1000000) (h : t + 1 < e) : Ev (fun k => ping_Health_Tick.f k e w t n false false) (⟨#[]⟩, false, e, w, t + 1, n, false, false) := by
  unfold ping_Health_Tick.f
  rw [wid (by omega) (by omega)]
  refine Ev_neg (by simp) (Ev_neg (by simp) ?_)
  exact Ev.step (fun k => ping_Health_Tick.j0.eq_2 ..) (Ev_neg (by simp) (Ev_neg (by simp) (Ev_pos (by omega) (Ev_some rfl))))
theorem tick_ping (e w t n : Int) (ht : 0 ≤ t) (ht' : t ≤ 1000000) (h : e ≤ t + 1) (hn : 0 ≤ n) (hn' : n ≤ 1000000) : Ev (fun k => ping_Health_Tick.f k e w t n false false) (bod (n + 1), false, e, w, 0, n + 1, true, false) := by
  unfold ping_Health_Tick.f
  rw [wid (x := t + 1) (by omega) (by omega)]
  refine Ev_neg (by simp) (Ev_neg (by simp) ?_)
  refine Ev.step (fun k => ping_Health_Tick.j0.eq_2 ..) (Ev_neg (by simp) (Ev_neg (by simp) (Ev_neg (by omega) ?_)))
  rw [wid (x := n + 1) (by omega) (by omega)]
  exact Ev.bind (body_ev _ _ _ _ _ _) (Ev_some rfl)
theorem got_idle (e w t n : Int) (b : Bool) (s : ByteArray) : Ev (fun k => ping_Health_Got.f k e w t n false b s) (false, e, w, t, n, false, b) := by
  unfold ping_Health_Got.f
  exact Ev_bind0 rfl (Ev_neg (by simp) (Ev_some rfl))
theorem got_gone (e w t n : Int) (s : ByteArray) : Ev (fun k => ping_Health_Got.f k e w t n true true s) (false, e, w, t, n, true, true) := by
  unfold ping_Health_Got.f
  exact Ev_bind0 rfl (Ev_pos rfl (Ev_pos rfl (Ev_some rfl)))
theorem got_yes (e w t n : Int) (s : ByteArray) (h : s.toList = (bod n).toList) : Ev (fun k => ping_Health_Got.f k e w t n true false s) (true, e, w, 0, n, false, false) := by
  unfold ping_Health_Got.f
  exact Ev_bind0 rfl (Ev_pos rfl (Ev_neg (by simp) (Ev.bind (body_ev _ _ _ _ _ _) (Ev_pos h (Ev_some rfl)))))
theorem got_no (e w t n : Int) (s : ByteArray) (h : ¬ s.toList = (bod n).toList) : Ev (fun k => ping_Health_Got.f k e w t n true false s) (false, e, w, t, n, true, false) := by
  unfold ping_Health_Got.f
  exact Ev_bind0 rfl (Ev_pos rfl (Ev_neg (by simp) (Ev.bind (body_ev _ _ _ _ _ _) (Ev_neg h (Ev_some rfl)))))
theorem new_run (e w : Int) (h : 1 ≤ e) (h' : 1 ≤ w) : ping_New.f e w = some (e, w, 0, 0, false, false) := by
  unfold ping_New.f; rw [if_neg (by omega), if_neg (by omega)]
theorem bod1 : (bod 1).toList = ([0, 0, 0, 0, 0, 0, 0, 1] : List UInt8) := by
  rw [bod_list]; simp [nums8, shr, IntKind.bits]
theorem alive_ev : Ev (fun k => bywashlaw17_alive.f k) true := by
  unfold bywashlaw17_alive.f
  refine Ev_bind0 (new_run 1 2 (by omega) (by omega)) ?_
  refine Ev.bind (tick_ping 1 2 0 0 (by omega) (by omega) (by omega) (by omega) (by omega)) ?_
  refine Ev_pos bod1 (Ev_neg (by simp) (Ev_bind0 rfl (Ev_pos rfl ?_)))
  refine Ev.bind (got_yes 1 2 0 (0 + 1) (bod (0 + 1)) rfl) (Ev_pos rfl (Ev_bind0 rfl (Ev_neg (by simp) (Ev_bind0 rfl (Ev_some ?_)))))
  simp

theorem and255 (x : Int) (h : 0 ≤ x) (h' : x < 2 ^ 63) : Go.bits .and .i64 x 255 = x % 256 :=
  bits_mask .i64 63 (by decide) (fun n h0 h1 => by rw [IntKind.wrap_i64]; omega) 8 (by decide) x h h'
theorem big_ev (n : Int) (h : 0 ≤ n) (h' : n ≤ 1000000) : Ev (fun k => bywashref1_Big.f k n 8) (bod n) := Ev_from 9 fun k => by
  have e0 := and255 n h (by omega)
  have e1 := and255 (n / 256) (by omega) (by omega)
  have e2 := and255 (n / 256 / 256) (by omega) (by omega)
  have e3 := and255 (n / 256 / 256 / 256) (by omega) (by omega)
  have e4 := and255 (n / 256 / 256 / 256 / 256) (by omega) (by omega)
  have e5 := and255 (n / 256 / 256 / 256 / 256 / 256) (by omega) (by omega)
  have e6 := and255 (n / 256 / 256 / 256 / 256 / 256 / 256) (by omega) (by omega)
  have e7 := and255 (n / 256 / 256 / 256 / 256 / 256 / 256 / 256) (by omega) (by omega)
  have hl : nums8 n = [n / 256 / 256 / 256 / 256 / 256 / 256 / 256 % 256 % 256, n / 256 / 256 / 256 / 256 / 256 / 256 % 256 % 256, n / 256 / 256 / 256 / 256 / 256 % 256 % 256, n / 256 / 256 / 256 / 256 % 256 % 256, n / 256 / 256 / 256 % 256 % 256, n / 256 / 256 % 256 % 256, n / 256 % 256 % 256, n % 256 % 256] := by
    simp only [nums8, shr, IntKind.bits]
    simp only [List.cons.injEq, and_true]
    simp
    omega
  simp [bywashref1_Big.f, bywashref1_Big.l0, wrap64, List.replicate, e0, e1, e2, e3, e4, e5, e6, e7, bod, hl]

def nn (a : Bool) (n : Int) : Int := if a = true then n else 0
theorem both_tick (e w t n : Int) (a g : Bool) (ht : 0 ≤ t) (ht' : t ≤ 1000) (hn : 0 ≤ n) (hn' : n ≤ 1000) (ha : a = true → 1 ≤ n) : ∃ (s : ByteArray) (gone : Bool) (t' n' : Int) (a' g' : Bool), 0 ≤ t' ∧ t' ≤ t + 1 ∧ n ≤ n' ∧ n' ≤ n + 1 ∧ (a' = true → 1 ≤ n') ∧
    Ev (fun k => ping_Health_Tick.f k e w t n a g) (s, gone, e, w, t', n', a', g') ∧ Ev (fun k => bywashref1_Health_Tick.f k e w (nn a n) t n g) (s, gone, e, w, nn a' n', t', n', g') := by
  have wt : wrap64 (t + 1) = t + 1 := wid (by omega) (by omega)
  have wn : wrap64 (n + 1) = n + 1 := wid (by omega) (by omega)
  cases g with
  | true =>
    refine ⟨_, _, t + 1, n, a, true, by omega, by omega, by omega, by omega, ha, tick_gone e w t n a ht (by omega), ?_⟩
    unfold bywashref1_Health_Tick.f
    rw [wt]
    exact Ev_pos rfl (Ev_some rfl)
  | false =>
    cases a with
    | true =>
      have hN := ha rfl
      by_cases hl : w ≤ t + 1
      · refine ⟨_, _, t + 1, n, true, true, by omega, by omega, by omega, by omega, ha, tick_late e w t n ht (by omega) hl, ?_⟩
        unfold bywashref1_Health_Tick.f
        rw [wt]
        refine Ev_neg (by simp) (Ev_pos (show nn true n > 0 from hN) (Ev_some ?_))
        rw [decide_eq_true (show t + 1 ≥ w from hl)]
      · refine ⟨_, _, t + 1, n, true, false, by omega, by omega, by omega, by omega, ha, tick_waits e w t n ht (by omega) (by omega), ?_⟩
        unfold bywashref1_Health_Tick.f
        rw [wt]
        refine Ev_neg (by simp) (Ev_pos (show nn true n > 0 from hN) (Ev_some ?_))
        rw [decide_eq_false (show ¬ t + 1 ≥ w from hl)]
    | false =>
      by_cases hi : t + 1 < e
      · refine ⟨_, _, t + 1, n, false, false, by omega, by omega, by omega, by omega, by simp, tick_idle e w t n ht (by omega) hi, ?_⟩
        unfold bywashref1_Health_Tick.f
        rw [wt]
        exact Ev_neg (by simp) (Ev_neg (by simp [nn]) (Ev_pos hi (Ev_some rfl)))
      · refine ⟨_, _, 0, n + 1, true, false, by omega, by omega, by omega, by omega, fun _ => by omega, tick_ping e w t n ht (by omega) (by omega) hn (by omega), ?_⟩
        unfold bywashref1_Health_Tick.f
        rw [wt, wn]
        exact Ev_neg (by simp) (Ev_neg (by simp [nn]) (Ev_neg hi (Ev.bind (big_ev (n + 1) (by omega) (by omega)) (Ev_some rfl))))
theorem both_got (e w t n : Int) (a g : Bool) (s : ByteArray) (ht : 0 ≤ t) (hn : 0 ≤ n) (hn' : n ≤ 1000) (ha : a = true → 1 ≤ n) : ∃ (y : Bool) (t' : Int) (a' : Bool), 0 ≤ t' ∧ t' ≤ t ∧ (a' = true → 1 ≤ n) ∧
    Ev (fun k => ping_Health_Got.f k e w t n a g s) (y, e, w, t', n, a', g) ∧ Ev (fun k => bywashref1_Health_Got.f k e w (nn a n) t n g s) (y, e, w, nn a' n, t', n, g) := by
  cases a with
  | false =>
    refine ⟨false, t, false, ht, by omega, by simp, got_idle e w t n g s, ?_⟩
    unfold bywashref1_Health_Got.f
    exact Ev_pos rfl (Ev_some rfl)
  | true =>
    have hN := ha rfl
    have h0 : ¬ nn true n = 0 := by show ¬ n = 0; omega
    cases g with
    | true =>
      refine ⟨false, t, true, ht, by omega, ha, got_gone e w t n s, ?_⟩
      unfold bywashref1_Health_Got.f
      exact Ev_neg h0 (Ev_pos rfl (Ev_some rfl))
    | false =>
      by_cases hs : s.toList = (bod n).toList
      · refine ⟨true, 0, false, by omega, ht, by simp, got_yes e w t n s hs, ?_⟩
        unfold bywashref1_Health_Got.f
        exact Ev_neg h0 (Ev_neg (by simp) (Ev.bind (show Ev (fun k => bywashref1_Big.f k (nn true n) 8) (bod n) from big_ev n hn (by omega)) (Ev_pos hs (Ev_some rfl))))
      · refine ⟨false, t, true, ht, by omega, ha, got_no e w t n s hs, ?_⟩
        unfold bywashref1_Health_Got.f
        exact Ev_neg h0 (Ev_neg (by simp) (Ev.bind (show Ev (fun k => bywashref1_Big.f k (nn true n) 8) (bod n) from big_ev n hn (by omega)) (Ev_neg hs (Ev_some rfl))))
theorem plays_l0 (e w : Int) (l : List S34) (hl : l.length ≤ 300) (d : Nat) : ∀ (i : Nat) (last : ByteArray) (t n : Int) (a g : Bool), l.length ≤ i + d → i ≤ l.length → 0 ≤ t → t ≤ i → 0 ≤ n → n ≤ i → (a = true → 1 ≤ n) →
    Ev (fun k => bywashlaw17_PingPlays.l0 k last l (l.length : Int) (i : Int) e w t n a g e w (nn a n) t n g) true := by
  induction d with
  | zero =>
    intro i last t n a g h1 h2 _ _ _ _ _
    exact Ev.step (fun k => bywashlaw17_PingPlays.l0.eq_2 ..) (Ev_neg (by omega) (Ev_some rfl))
  | succ d ih =>
    intro i last t n a g h1 h2 t1 t2 n1 n2 ha
    refine Ev.step (fun k => bywashlaw17_PingPlays.l0.eq_2 ..) (Ev_ite (fun hi => Ev_pos (by omega) (Ev_pos hi (Ev_ite (fun _ => Ev_some rfl) fun _ => ?_))) fun _ => Ev_some rfl)
    have j4 : ∀ (last : ByteArray) (t n : Int) (a g : Bool), 0 ≤ t → t ≤ i + 1 → 0 ≤ n → n ≤ i + 1 → (a = true → 1 ≤ n) → Ev (fun k => bywashlaw17_PingPlays.j4 k last l (l.length : Int) (i : Int) e w t n a g e w (nn a n) t n g) true := by
      intro last t n a g t1 t2 n1 n2 ha
      have nx : ∀ b : Bool, b = false → Ev (fun k => bywashlaw17_PingPlays.j5 k last l (l.length : Int) (i : Int) b e w t n a g e w (nn a n) t n g) true := by
        intro b hb
        refine Ev.step (fun k => bywashlaw17_PingPlays.j5.eq_2 ..) (Ev_neg (by simp [hb]) ?_)
        rw [wid (x := (i : Int) + 1) (by omega) (by omega)]
        exact ih (i + 1) last t n a g (by omega) (by omega) t1 (by omega) n1 (by omega) ha
      refine Ev.step (fun k => bywashlaw17_PingPlays.j4.eq_2 ..) (Ev_bind0 rfl ?_)
      cases a with
      | true =>
        have hN := ha rfl
        exact Ev_pos rfl (Ev_pos (show nn true n > 0 from hN) (Ev_bind0 rfl (nx _ (by simp))))
      | false => exact Ev_neg (by simp) (Ev_neg (by simp [nn]) (Ev_bind0 rfl (nx _ (by simp))))
    generalize (rd_T34 l (i : Int)).f0 = o
    generalize (rd_T34 l (i : Int)).f1 = s
    refine Ev_ite (fun _ => ?_) fun _ => Ev_ite (fun _ => ?_) fun _ => Ev_ite (fun _ => ?_) fun _ => ?_
    · obtain ⟨b, gone, t', n', a', g', q1, q2, q3, q4, q5, e1, e2⟩ := both_tick e w t n a g t1 (by omega) n1 (by omega) ha
      refine Ev.bind e1 (Ev.bind e2 (Ev_pos rfl ?_))
      have j3 : Ev (fun k => bywashlaw17_PingPlays.j3 k last b l (l.length : Int) (i : Int) false e w t' n' a' g' e w (nn a' n') t' n' g') true := by
        refine Ev.step (fun k => bywashlaw17_PingPlays.j3.eq_2 ..) (Ev_neg (by simp) (Ev_ite (fun _ => ?_) fun _ => ?_))
        · exact j4 last t' n' a' g' q1 (by omega) (by omega) (by omega) q5
        · exact j4 b t' n' a' g' q1 (by omega) (by omega) (by omega) q5
      cases gone with
      | true => exact Ev_pos rfl (Ev_pos rfl j3)
      | false => exact Ev_neg (by simp) (Ev_neg (by simp) j3)
    · obtain ⟨y, t', a', q1, q2, q3, e1, e2⟩ := both_got e w t n a g last t1 n1 (by omega) ha
      refine Ev.bind e1 (Ev.bind e2 ?_)
      have := j4 last t' n a' g q1 (by omega) n1 (by omega) q3
      cases y with
      | true => exact Ev_pos rfl (Ev_pos rfl this)
      | false => exact Ev_neg (by simp) (Ev_neg (by simp) this)
    · obtain ⟨y, t', a', q1, q2, q3, e1, e2⟩ := both_got e w t n a g s t1 n1 (by omega) ha
      refine Ev.bind e1 (Ev.bind e2 ?_)
      have := j4 last t' n a' g q1 (by omega) n1 (by omega) q3
      cases y with
      | true => exact Ev_pos rfl (Ev_pos rfl this)
      | false => exact Ev_neg (by simp) (Ev_neg (by simp) this)
    · exact j4 last t n a g t1 (by omega) n1 (by omega) ha
theorem PingPlays_some (e w : Int) (l : List S34) (h : l.length > 300 ∨ 1 ≤ e ∧ 1 ≤ w) : ∃ k, bywashlaw17_PingPlays.f k e w l = some true := by
  refine Ev.rounds ?_
  unfold bywashlaw17_PingPlays.f
  refine Ev_ite (fun _ => ?_) fun hl => Ev.bind alive_ev ?_
  · exact Ev.step (fun k => bywashlaw17_PingPlays.j0.eq_2 ..) (Ev_pos rfl (Ev.bind alive_ev (Ev_some rfl)))
  have h := h.resolve_left (by omega)
  refine Ev.step (fun k => bywashlaw17_PingPlays.j0.eq_2 ..) (Ev_neg (by simp) (Ev_bind0 (new_run e w h.1 h.2) (Ev_neg (by omega) ?_)))
  rw [decide_eq_false (show ¬ w < 1 by omega)]
  refine Ev.step (fun k => bywashlaw17_PingPlays.j1.eq_2 ..) (Ev_neg (by simp) ?_)
  exact plays_l0 e w l (by omega) l.length 0 _ 0 0 false false (by omega) (by omega) (by omega) (by omega) (by omega) (by omega) (by simp)
theorem alive_some : ∃ k, bywashlaw17_alive.f k = some true := Ev.rounds alive_ev

end Go.Proofs.Ytkakcalabpobpaa.Pure
