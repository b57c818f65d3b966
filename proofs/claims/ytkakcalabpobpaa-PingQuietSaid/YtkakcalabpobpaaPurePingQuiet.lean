/- Other answers than the one that is waited for change nothing. Conditions: those of the statement itself. -/
import Derived.Test.YtkakcalabpobpaaPPingQuietx0
import Derived.Test.YtkakcalabpobpaaPPingQuietx1
import Derived.Test.YtkakcalabpobpaaPPingQuietx2
import Derived.Test.YtkakcalabpobpaaStaPingQuiet
import Derived.Test.YtkakcalabpobpaaAid
namespace Go.Proofs.Ytkakcalabpobpaa.Pure
open Go.RowKit Go.Proofs.YtkakcalabpobpaaW.PrintWords Go.Proofs.YtkakcalabpobpaaW.PrintLast Go.Proofs.YtkakcalabpobpaaW.PrintMore Go.Proofs.Ytkakcalabpobpaa.Aid Go.Proofs.Ytkakcalabpobpaa.PPingQuiet Go.Proofs.Ytkakcalabpobpaa.StaPingQuiet
set_option linter.unusedVariables false
set_option linter.unusedSimpArgs false

/-- The body of ping number n. -/
def nums8 (n : Int) : List Int := [shr .i64 n 56 % 256, shr .i64 n 48 % 256, shr .i64 n 40 % 256, shr .i64 n 32 % 256, shr .i64 n 24 % 256, shr .i64 n 16 % 256, shr .i64 n 8 % 256, shr .i64 n 0 % 256]
def bod (n : Int) : ByteArray := strOfNums (nums8 n)
theorem body_run (k : Nat) (e w t n : Int) (a b : Bool) : ping_Health_body.f (k + 9) e w t n a b = some (bod n, e, w, t, n, a, b) := by
  simp [ping_Health_body.f, ping_Health_body.l0, wrap64, bod, nums8]
theorem body_ev (e w t n : Int) (a b : Bool) : Ev (fun k => ping_Health_body.f k e w t n a b) (bod n, e, w, t, n, a, b) := Ev_from 9 fun k => body_run k e w t n a b
theorem bod_list (n : Int) : (bod n).toList = (nums8 n).map fun n => UInt8.ofNat n.toNat := by
  rw [ByteArray.toList_eq]; rfl
theorem nil_list : (⟨#[]⟩ : ByteArray).toList = ([] : List UInt8) := by rw [ByteArray.toList_eq]
theorem nil_list' : ((⟨#[]⟩ : ByteArray).toList != ([] : List UInt8)) = false := by rw [nil_list]; rfl
theorem bod_ne_nil (n : Int) : ¬ (bod n).toList = ([] : List UInt8) := by rw [bod_list]; simp [nums8]
theorem bod_ne_nil' (n : Int) : ((bod n).toList != ([] : List UInt8)) = true := bne_iff_ne.2 (bod_ne_nil n)
theorem shr0 (n : Int) : shr .i64 n 0 = n := by simp [shr]
theorem bod_ne (n m : Int) (h : n % 256 ≠ m % 256) : ¬ (bod n).toList = (bod m).toList := by
  rw [bod_list, bod_list]
  intro he
  have h8 := congrArg (fun l => (l.getD 7 0).toNat) he
  simp only [nums8, List.map_cons, List.map_nil, List.getD_cons_succ, List.getD_cons_zero, shr0, UInt8.toNat_ofNat'] at h8
  omega
theorem tick_gone (e w t n : Int) (a : Bool) (ht : 0 ≤ t) (ht' : t ≤ 1000000) : Ev (fun k => ping_Health_Tick.f k e w t n a true) (⟨#[]⟩, true, e, w, t + 1, n, a, true) := by
  unfold ping_Health_Tick.f
  refine Ev_pos rfl (Ev.step (fun k => ping_Health_Tick.j0.eq_2 ..) (Ev_pos rfl (Ev_some ?_)))
  rw [wid (by omega) (by omega)]
theorem tick_waits (e w t n : Int) (ht : 0 ≤ t) (ht' : t ≤ 1000000) (h : t + 1 < w) : Ev (fun k => ping_Health_Tick.f k e w t n true false) (⟨#[]⟩, false, e, w, t + 1, n, true, false) := by
  unfold ping_Health_Tick.f
  rw [wid (by omega) (by omega), decide_eq_false (by omega)]
  refine Ev_neg (by simp) (Ev_pos rfl ?_)
  exact Ev.step (fun k => ping_Health_Tick.j0.eq_2 ..) (Ev_neg (by simp) (Ev_pos rfl (Ev_some rfl)))
theorem tick_late (e w t n : Int) (ht : 0 ≤ t) (ht' : t ≤ 1000000) (h : w ≤ t + 1) : Ev (fun k => ping_Health_Tick.f k e w t n true false) (⟨#[]⟩, true, e, w, t + 1, n, true, true) := by
  unfold ping_Health_Tick.f
  rw [wid (by omega) (by omega), decide_eq_true (by omega)]
  refine Ev_neg (by simp) (Ev_pos rfl ?_)
  exact Ev.step (fun k => ping_Health_Tick.j0.eq_2 ..) (Ev_pos rfl (Ev_some rfl))
theorem tick_idle (e w t n : Int) (ht : 0 ≤ t) (ht' : t ≤ 1000000) (h : t + 1 < e) : Ev (fun k => ping_Health_Tick.f k e w t n false false) (⟨#[]⟩, false, e, w, t + 1, n, false, false) := by
  unfold ping_Health_Tick.f
  rw [wid (by omega) (by omega)]
  refine Ev_neg (by simp) (Ev_neg (by simp) ?_)
  exact Ev.step (fun k => ping_Health_Tick.j0.eq_2 ..) (Ev_neg (by simp) (Ev_neg (by simp) (Ev_pos (by omega) (Ev_some rfl))))
theorem tick_ping (e w t n : Int) (ht : 0 ≤ t) (ht' : t ≤ 1000000) (h : e ≤ t + 1) (hn : 0 ≤ n) (hn' : n ≤ 1000000) : Ev (fun k => ping_Health_Tick.f k e w t n false false) (bod (n + 1), false, e, w, 0, n + 1, true, false) := by
  unfold ping_Health_Tick.f
  rw [wid (x := t + 1) (by omega) (by omega)]
  refine Ev_neg (by simp) (Ev_neg (by simp) ?_)
  refine Ev.step (fun k => ping_Health_Tick.j0.eq_2 ..) (Ev_neg (by simp) (Ev_neg (by simp) (Ev_neg (by omega) ?_)))
  rw [wid (x := n + 1) (by omega) (by omega)]
  exact Ev.bind (body_ev _ _ _ _ _ _) (Ev_some rfl)
theorem got_idle (e w t n : Int) (b : Bool) (s : ByteArray) : Ev (fun k => ping_Health_Got.f k e w t n false b s) (false, e, w, t, n, false, b) := by
  unfold ping_Health_Got.f
  exact Ev_bind0 rfl (Ev_neg (by simp) (Ev_some rfl))
theorem got_gone (e w t n : Int) (s : ByteArray) : Ev (fun k => ping_Health_Got.f k e w t n true true s) (false, e, w, t, n, true, true) := by
  unfold ping_Health_Got.f
  exact Ev_bind0 rfl (Ev_pos rfl (Ev_pos rfl (Ev_some rfl)))
theorem got_yes (e w t n : Int) (s : ByteArray) (h : s.toList = (bod n).toList) : Ev (fun k => ping_Health_Got.f k e w t n true false s) (true, e, w, 0, n, false, false) := by
  unfold ping_Health_Got.f
  exact Ev_bind0 rfl (Ev_pos rfl (Ev_neg (by simp) (Ev.bind (body_ev _ _ _ _ _ _) (Ev_pos h (Ev_some rfl)))))
theorem got_no (e w t n : Int) (s : ByteArray) (h : ¬ s.toList = (bod n).toList) : Ev (fun k => ping_Health_Got.f k e w t n true false s) (false, e, w, t, n, true, false) := by
  unfold ping_Health_Got.f
  exact Ev_bind0 rfl (Ev_pos rfl (Ev_neg (by simp) (Ev.bind (body_ev _ _ _ _ _ _) (Ev_neg h (Ev_some rfl)))))
theorem new_run (e w : Int) (h : 1 ≤ e) (h' : 1 ≤ w) : ping_New.f e w = some (e, w, 0, 0, false, false) := by
  unfold ping_New.f; rw [if_neg (by omega), if_neg (by omega)]
theorem bod1 : (bod 1).toList = ([0, 0, 0, 0, 0, 0, 0, 1] : List UInt8) := by
  rw [bod_list]; simp [nums8, shr, IntKind.bits]
theorem alive_ev : Ev (fun k => bywashlaw17_alive.f k) true := by
  unfold bywashlaw17_alive.f
  refine Ev_bind0 (new_run 1 2 (by omega) (by omega)) ?_
  refine Ev.bind (tick_ping 1 2 0 0 (by omega) (by omega) (by omega) (by omega) (by omega)) ?_
  refine Ev_pos bod1 (Ev_neg (by simp) (Ev_bind0 rfl (Ev_pos rfl ?_)))
  refine Ev.bind (got_yes 1 2 0 (0 + 1) (bod (0 + 1)) rfl) (Ev_pos rfl (Ev_bind0 rfl (Ev_neg (by simp) (Ev_bind0 rfl (Ev_some ?_)))))
  simp

theorem and255 (x : Int) (h : 0 ≤ x) (h' : x < 2 ^ 63) : Go.bits .and .i64 x 255 = x % 256 :=
  bits_mask .i64 63 (by decide) (fun n h0 h1 => by rw [IntKind.wrap_i64]; omega) 8 (by decide) x h h'
theorem big_ev (n : Int) (h : 0 ≤ n) (h' : n ≤ 1000000) : Ev (fun k => bywashref1_Big.f k n 8) (bod n) := Ev_from 9 fun k => by
  have e0 := and255 n h (by omega)
  have e1 := and255 (n / 256) (by omega) (by omega)
  have e2 := and255 (n / 256 / 256) (by omega) (by omega)
  have e3 := and255 (n / 256 / 256 / 256) (by omega) (by omega)
  have e4 := and255 (n / 256 / 256 / 256 / 256) (by omega) (by omega)
  have e5 := and255 (n / 256 / 256 / 256 / 256 / 256) (by omega) (by omega)
  have e6 := and255 (n / 256 / 256 / 256 / 256 / 256 / 256) (by omega) (by omega)
  have e7 := and255 (n / 256 / 256 / 256 / 256 / 256 / 256 / 256) (by omega) (by omega)
  have hl : nums8 n = [n / 256 / 256 / 256 / 256 / 256 / 256 / 256 % 256 % 256, n / 256 / 256 / 256 / 256 / 256 / 256 % 256 % 256, n / 256 / 256 / 256 / 256 / 256 % 256 % 256, n / 256 / 256 / 256 / 256 % 256 % 256, n / 256 / 256 / 256 % 256 % 256, n / 256 / 256 % 256 % 256, n / 256 % 256 % 256, n % 256 % 256] := by
    simp only [nums8, shr, IntKind.bits]
    simp only [List.cons.injEq, and_true]
    simp
    omega
  simp [bywashref1_Big.f, bywashref1_Big.l0, wrap64, List.replicate, e0, e1, e2, e3, e4, e5, e6, e7, bod, hl]

theorem quiet_l2 (e w : Int) (l : List ByteArray) (hl : l.length ≤ 30) (d : Nat) : ∀ i : Nat, l.length - i = d → Ev (fun k => bywashlaw17_PingQuiet.l2 k l (l.length : Int) (i : Int) e w 0 1 true false) true := by
  induction d with
  | zero =>
    intro i hd
    exact Ev.step (fun k => bywashlaw17_PingQuiet.l2.eq_2 ..) (Ev_neg (by omega) (Ev_bind0 rfl (Ev_pos rfl (Ev_bind0 rfl (Ev_some rfl)))))
  | succ d ih =>
    intro i hd
    refine Ev.step (fun k => bywashlaw17_PingQuiet.l2.eq_2 ..) (Ev_pos (by omega) (Ev_pos (by omega) (Ev_pos (by omega) ?_)))
    refine Ev.bind (big_ev 1 (by omega) (by omega)) ?_
    rw [wid (x := (i : Int) + 1) (by omega) (by omega)]
    refine Ev_ite (fun _ => ih (i + 1) (by omega)) fun hne => ?_
    exact Ev.bind (got_no _ _ _ _ _ hne) (Ev_neg (by simp) (Ev_bind0 rfl (Ev_pos rfl (ih (i + 1) (by omega)))))
theorem quiet_l1 (e w : Int) (l : List ByteArray) (hl : l.length ≤ 30) (j : Int) (t n : Int) (b : Bool) (hne : b = false)
    (h : Ev (fun k => (ping_Health_Tick.f k e w t n false false).bind fun bt182 => (bywashlaw17_PingQuiet.l0 k e l (wrap64 (j + 1)) bt182.2.2.1 bt182.2.2.2.1 bt182.2.2.2.2.1 bt182.2.2.2.2.2.1 bt182.2.2.2.2.2.2.1 bt182.2.2.2.2.2.2.2)) true) (d : Nat) :
    ∀ i : Nat, l.length - i = d → Ev (fun k => bywashlaw17_PingQuiet.l1 k e l j l (l.length : Int) (i : Int) e w t n b false) true := by
  subst hne
  induction d with
  | zero =>
    intro i hd
    exact Ev.step (fun k => bywashlaw17_PingQuiet.l1.eq_2 ..) (Ev_neg (by omega) h)
  | succ d ih =>
    intro i hd
    refine Ev.step (fun k => bywashlaw17_PingQuiet.l1.eq_2 ..) (Ev_pos (by omega) (Ev_pos (by omega) (Ev_pos (by omega) ?_)))
    rw [wid (x := (i : Int) + 1) (by omega) (by omega)]
    exact Ev.bind (got_idle _ _ _ _ _ _) (Ev_neg (by simp) (Ev_bind0 rfl (Ev_neg (by simp) (ih (i + 1) (by omega)))))
theorem quiet_l0 (e w : Int) (he : 1 ≤ e) (he' : e ≤ 50) (l : List ByteArray) (hl : l.length ≤ 30) (d : Nat) : ∀ j : Int, 0 ≤ j → e - 1 - j = d → Ev (fun k => bywashlaw17_PingQuiet.l0 k e l j e w j 0 false false) true := by
  induction d with
  | zero =>
    intro j hj hd
    refine Ev.step (fun k => bywashlaw17_PingQuiet.l0.eq_2 ..) (Ev_pos (by omega) ?_)
    refine quiet_l1 e w l hl j j 0 false rfl ?_ l.length 0 (by omega)
    refine Ev.bind (tick_ping e w j 0 hj (by omega) (by omega) (by omega) (by omega)) ?_
    rw [wid (x := j + 1) (by omega) (by omega)]
    exact Ev.step (fun k => bywashlaw17_PingQuiet.l0.eq_2 ..) (Ev_neg (by omega) (quiet_l2 e w l hl l.length 0 (by omega)))
  | succ d ih =>
    intro j hj hd
    refine Ev.step (fun k => bywashlaw17_PingQuiet.l0.eq_2 ..) (Ev_pos (by omega) ?_)
    refine quiet_l1 e w l hl j j 0 false rfl ?_ l.length 0 (by omega)
    refine Ev.bind (tick_idle e w j 0 hj (by omega) (by omega)) ?_
    rw [wid (x := j + 1) (by omega) (by omega)]
    exact ih (j + 1) (by omega) (by omega)
theorem PingQuiet : StaPingQuiet.Pure := by
  intro e w l _ _ ⟨_, hsz, _⟩
  have j0_true : Ev (fun k => bywashlaw17_PingQuiet.j0 k e w l true) true :=
    Ev.step (fun k => bywashlaw17_PingQuiet.j0.eq_2 ..) (Ev_pos rfl (Ev.bind alive_ev (Ev_some rfl)))
  refine Ev.rounds ?_
  unfold bywashlaw17_PingQuiet.f
  refine Ev_ite (fun _ => j0_true) fun h1 => ?_
  refine Ev_ite (fun _ => j0_true) fun h2 => ?_
  refine Ev_ite (fun _ => j0_true) fun h3 => ?_
  refine Ev_ite (fun _ => j0_true) fun h4 => ?_
  refine Ev_ite (fun _ => j0_true) fun h5 => ?_
  refine Ev.bind alive_ev ?_
  refine Ev.step (fun k => bywashlaw17_PingQuiet.j0.eq_2 ..) (Ev_neg (by simp) (Ev_bind0 (new_run e w (by omega) (by omega)) ?_))
  exact quiet_l0 e w (by omega) (by omega) l (by omega) (e - 1).toNat 0 (by omega) (by omega)

end Go.Proofs.Ytkakcalabpobpaa.Pure
