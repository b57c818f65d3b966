/- Lists of a kind in memory: rows of one's own, marks, appends that leave the old row. Conditions: those that each names. -/
import Derived.Test.YtdonanibfifodaaPBlockTellsx12
import Derived.Test.YtdonanibfifodaaPBlockTellsx3
import Derived.Test.YtdonanibfifodaaAid
import Derived.WalkKit
import Derived.Below
import Derived.RowKitTokens
import Derived.Deep.RegionWith
import Derived.Deep.QuietTactic
import Derived.BigQuiet
namespace Go.Proofs.Ytdonanibfifodaa.Book
open Go.RowKit Go.Proofs.YtdonanibfifodaaW.PrintWords Go.Proofs.YtdonanibfifodaaW.PrintLast Go.Proofs.YtdonanibfifodaaW.PrintMore Go.Proofs.Ytdonanibfifodaa.Aid Go.Proofs.Ytdonanibfifodaa.PBlockTells
set_option linter.unusedVariables false
set_option linter.unusedSimpArgs false

abbrev E := S39
abbrev kE := k39
abbrev zE := z39
theorem M_any {w w1 : World} {base base' : Nat} {ok ok' : Nat → Prop} {x : E} {cs : List Value} (h : kE.M w base ok x cs) : kE.M w1 base' ok' x cs := by
  obtain rfl := k39_openM h
  exact k39_mkM _ _ _ _
/-- A row of one's own. -/
def Own (w : World) (base : Nat) (v : Value) (xs : List E) : Prop := Kd.R kE 39 w base (fun _ => True) v xs
theorem Own.of {w : World} {base base' : Nat} {ok : Nat → Prop} {v : Value} {xs : List E} (h : Kd.R kE 39 w base ok v xs) (hb : base' ≤ base) : Own w base' v xs := Kd.R_mono (Kd.R_lower h hb) (fun _ _ => trivial)
theorem Own.step {w w1 : World} {base : Nat} {v : Value} {xs : List E} (h : Own w base v xs) (hm : ∀ k, v.ownBlock = some k → w1.heap[k]? = w.heap[k]?) : Own w1 base v xs := by
  obtain ⟨h0, inner, ho, hr⟩ := h
  exact ⟨fun _ _ => trivial, inner, own_move ho hm, hr.imp_ (fun _ _ hq => M_any hq)⟩
theorem Own.lt {w : World} {base : Nat} {v : Value} {xs : List E} (h : Own w base v xs) {k : Nat} (hk : v.ownBlock = some k) : k < w.heap.size := by
  obtain ⟨_, _, ho, _⟩ := h
  exact own_lt ho k hk
theorem Own.ge {w : World} {base : Nat} {v : Value} {xs : List E} (h : Own w base v xs) {k : Nat} (hk : v.ownBlock = some k) : base ≤ k := by
  obtain ⟨_, _, ho, _⟩ := h
  exact own_base ho k hk
theorem Own.below {w w1 : World} {base : Nat} {v : Value} {xs : List E} (h : Own w base v xs) (hb : Below w.heap.size w w1) : Own w1 base v xs := h.step (fun k hk => hb.block k (h.lt hk))
theorem Own.grown {w w1 : World} {base : Nat} {v : Value} {xs : List E} (h : Own w base v xs) {row : Option Nat} (hg : w.grownBy w1 row) (hne : ∀ k, v.ownBlock = some k → some k ≠ row) : Own w1 base v xs := h.step (fun k hk => hg.block k (h.lt hk) (hne k hk))
/-- What a header reads. -/
structure Reads (w : World) (v : Value) (xs : List E) : Prop where
  out : ∃ A c, v = .slice A xs.length c ∧ xs.length ≤ c ∧ kE.C w A xs.length xs
theorem Own.reads {w : World} {base : Nat} {v : Value} {xs : List E} (h : Own w base v xs) : Reads w v xs := ⟨Kd.R_reads h⟩
theorem reps_cell {α : Type} {R : α → List Value → Prop} {size : Nat} {ps : List α} {cs : List Value} (hs : 0 < size) (h : Reps R size ps cs) {u : Value} (hu : u ∈ cs) : ∃ p c, R p c ∧ u ∈ c := by
  obtain ⟨q, hq, rfl⟩ := List.mem_iff_getElem.1 hu
  have hl : q / size < ps.length := Nat.div_lt_of_lt_mul (by rw [Nat.mul_comm, ← h.1]; exact hq)
  exact ⟨_, _, h.2 (q / size) _ (List.getElem?_eq_getElem hl), List.mem_iff_getElem?.2 ⟨q % size, by rw [List.getElem?_take, if_pos (Nat.mod_lt _ hs), List.getElem?_drop, Nat.mul_comm, Nat.div_add_mod, List.getElem?_eq_getElem hq]⟩⟩
/-- An append has stayed in the old row, or it has left every old row as it was. -/
theorem append_keep {P : Program} {w : World} {base : Nat} {t ty e : TypeId} {i : TypeInfo} {z : Value} {size : Nat} (ht : P.underlying t = some (.slice e)) (hi : P.info? e = some i) (hz : i.zero = some z) (hsize : i.size = size)
    {v : Value} {n : Nat} {xs : List Value} (hown : w.ownsRow base e size v n xs) {a : Addr} {m c : Nat} {news : List Value} (hl : news.length = m * size) (hnews : ∀ j u, news[j]? = some u → w.cell? (a.add j) = some u) (h1 : ∀ u ∈ news, u.oneCell' = true)
    (h63 : n + m ≤ 1000000000) (hbytes : (n + m) * i.bytes ≤ 140737488355328) (hm : 0 < m)
    {v1 : Value} {w1 : World} (hrun : (Builtin.append_ #[t, t] ty #[v, .slice (some a) m c]).run P w = .ok v1 w1) (hg : w.grownBy w1 v.ownBlock) (hat : v1.ownBlock = v.ownBlock ∨ v1.ownBlock = some w.heap.size) : (∃ b cap, v = .slice (some ⟨b, 0, none⟩) n cap ∧ v1 = .slice (some ⟨b, 0, none⟩) (n + m) cap) ∨ (∀ b, v1.ownBlock = some b → w.heap.size ≤ b) ∧ w.grownBy w1 none := by
  subst hsize
  rcases hown.2 with ⟨rfl, rfl⟩ | ⟨g, cap, cur, rfl, hbg, hgh, hnc, hcm, hcs, htake⟩
  · refine .inr ⟨fun b hb => ?_, hg⟩
    rcases hat with hat | hat
    · rw [hat] at hb; cases hb
    · rw [hat] at hb; injection hb with hb; omega
  · by_cases hroom : n + m ≤ cap
    · have hr := run_append_room (P := P) w t ty e i ht hi g n cap cur hgh a m c news hl hnews h1 hroom (by rw [hl, hcs, ← Nat.add_mul]; exact Nat.mul_le_mul_right _ hroom)
      rw [hr] at hrun
      injection hrun with e1 e2
      rw [← e1]
      exact .inl ⟨_, _, rfl, rfl⟩
    · have hr := run_append_grow (P := P) w t ty e i z ht hi hz ⟨g, 0, none⟩ n cap xs hown.1 (hown.cells (g := g) rfl) a m c news hl hnews (by omega) (by omega) (growslice_fits (by omega) hbytes)
      rw [hr] at hrun
      injection hrun with e1 e2
      rw [← e1, ← e2]
      exact .inr ⟨fun b hb => by injection hb with hb; exact Nat.le_of_eq hb, rfl, rfl, rfl, by simp, fun k hk _ => Below.heap_alloc w.drew _ k hk⟩
section
variable {ops : Array Oper} {rest : List Oper} {o : Oper} {a : Act} {Q : Exit → Act → World → Prop}
/-- append(v, ys...): the old row too. -/
theorem E_append {w0 W : World} {base : Nat} (hgd : o.guard = none) (s x : Operand)
    (ho : o.op = .call { callee := .builtin .append, args := #[s, x], argTypes := #[23, 23] }) (v : Value) (xs ys : List E) (A : Option Addr) (m c : Nat) (hs : a.eval s = v) (hx : a.eval x = .slice A m c)
    (HO : Own W base v xs) (HR : kE.C W A m ys) (hm : 0 < m) (HB : Below base w0 W) (hbase : base ≤ W.heap.size) (hl : xs.length + m ≤ 1000000)
    (h : ∀ v1 w1, Own w1 base v1 (xs ++ ys) → Below base w0 w1 → W.grownBy w1 v.ownBlock → ((∃ b cap, v = .slice (some ⟨b, 0, none⟩) xs.length cap ∧ v1 = .slice (some ⟨b, 0, none⟩) (xs.length + m) cap) ∨ (∀ b, v1.ownBlock = some b → W.heap.size ≤ b) ∧ W.grownBy w1 none) → wpList Try.prog ops Q rest (a.put o.dst v1) w1) :
    wpList Try.prog ops Q (o :: rest) a W := by
  obtain ⟨_, inner, hown, hr⟩ := HO
  have hym : ys.length = m := HR.1
  obtain ⟨ad, rfl, _⟩ := HR.2.2 hm
  obtain ⟨news, hnr, hnc⟩ := ReadsRow.inner_ HR
  have hone : ∀ u ∈ news, u.oneCell' = true := by
    intro u hu
    obtain ⟨p, c, hp, huc⟩ := reps_cell (by decide) hnr hu
    exact kE.K_one hp u huc
  obtain ⟨i0, hi, hzz⟩ := Option.map_eq_some_iff.1 info39
  simp only [Prod.mk.injEq] at hzz
  obtain ⟨hz0, hz1, hz2⟩ := hzz
  have hnl : news.length = m * 4 := by have h := hnr.1; rw [hym] at h; exact h
  obtain ⟨v1, w1, hrun, h2, hg, _, hat⟩ := run_append_own_at (P := Try.prog) W base 23 o.type 39 i0 _ 4 40 Try.underlying23 hi hz0 hz1 hz2 rfl (by decide) v xs.length inner hown ad m c news hnl hnc hone (by simp only [maxLen]; omega) (by omega) hbase
  have hkeep := append_keep Try.underlying23 hi hz0 hz1 hown hnl hnc hone (by omega) (by rw [hz2]; omega) hm hrun hg hat
  have hO1 : Own w1 base v1 (xs ++ ys) := ⟨fun _ _ => trivial, inner ++ news, by rw [List.length_append, hym]; exact h2, Kd.reps_append (hr.imp_ (fun _ _ hq => M_any hq)) (hnr.imp_ (fun p c hq => by obtain rfl := k39_open hq; exact k39_mkM _ _ _ _))⟩
  refine wpList_plain hgd fun K hK => ?_
  unfold Oper.wp execOp
  simp only [ho, resolve, invoke, builtin, Sem.run_bind, Sem.run_pure, Result.andThen_ok, List.map_toArray, List.map_cons, List.map_nil, hs, hx, hrun]
  exact hK _ _ (h v1 w1 hO1 (HB.grown hg hbase (own_base hown)) hg hkeep)
end

/-! What the marks are. -/
theorem wid {x : Int} (h0 : -9223372036854775808 ≤ x) (h1 : x ≤ 9223372036854775807) : wrap64 x = x := by unfold wrap64; omega
def mkE (i k : Int) : E := ⟨wrap64 ((wrap64 ((wrap64 ((-1000) * i)) - k)) - 1), 0, 0, (⟨#[]⟩ : ByteArray)⟩
def marks (i : Int) (f n : Nat) : List E := (List.range' f n).map fun (k : Nat) => mkE i (k : Int)
theorem marks_length (i : Int) (f n : Nat) : (marks i f n).length = n := by simp [marks]
theorem marks_app (i : Int) (f n m : Nat) : marks i f n ++ marks i (f + n) m = marks i f (n + m) := by
  unfold marks
  rw [← List.map_append, List.range'_append_1]
theorem marks_snoc (i : Int) (f n : Nat) : marks i f n ++ [mkE i ((f + n : Nat) : Int)] = marks i f (n + 1) := (marks_app i f n 1)
theorem mark_l0 (i : Int) (f n : Nat) (h : f + n ≤ 1000000) (d : Nat) : ∀ j : Nat, n ≤ j + d → j ≤ n → Ev (fun k => bywashbook_markFrames.l0 k i (f : Int) (n : Int) (marks i f j) ((f + j : Nat) : Int)) (marks i f n) := by
  have done : ∀ j : Nat, j = n → Ev (fun k => bywashbook_markFrames.l0 k i (f : Int) (n : Int) (marks i f j) ((f + j : Nat) : Int)) (marks i f n) := by
    rintro j rfl
    refine Ev.step (fun k => bywashbook_markFrames.l0.eq_2 ..) (Ev_neg ?_ (Ev_some rfl))
    rw [wid (x := (f : Int) + (j : Int)) (by omega) (by omega)]
    omega
  induction d with
  | zero => intro j h1 h2; exact done j (by omega)
  | succ d ih =>
    intro j h1 h2
    by_cases hj : j = n
    · exact done j hj
    · refine Ev.step (fun k => bywashbook_markFrames.l0.eq_2 ..) (Ev_pos ?_ (Ev_pos ?_ ?_))
      · rw [wid (x := (f : Int) + (n : Int)) (by omega) (by omega)]; omega
      · rw [marks_length]; omega
      · have e : (marks i f j ++ [(⟨wrap64 ((wrap64 ((wrap64 ((-1000) * i)) - ((f + j : Nat) : Int))) - 1), 0, 0, (⟨#[]⟩ : ByteArray)⟩ : E)]) = marks i f (j + 1) := marks_snoc i f j
        rw [e, wid (x := ((f + j : Nat) : Int) + 1) (by omega) (by omega), show ((f + j : Nat) : Int) + 1 = ((f + (j + 1) : Nat) : Int) from by omega]
        exact ih (j + 1) (by omega) (by omega)
theorem mark_ev (i : Int) (f n : Nat) (h : f + n ≤ 1000000) : Ev (fun k => bywashbook_markFrames.f k i (f : Int) (n : Int)) (marks i f n) := by
  unfold bywashbook_markFrames.f
  have := mark_l0 i f n h n 0 (by omega) (by omega)
  rw [Nat.add_zero] at this
  exact this
theorem same_ev (l : List E) (hl : l.length ≤ 1000000) : Ev (fun k => bywashbook_SameFrames.f k l l) true := by
  have key : ∀ (d i : Nat), l.length ≤ i + d → i ≤ l.length → Ev (fun k => bywashbook_SameFrames.l0 k l l (i : Int)) true := by
    intro d
    induction d with
    | zero => intro i h1 h2; exact Ev.step (fun k => bywashbook_SameFrames.l0.eq_2 ..) (Ev_neg (by omega) (Ev_some rfl))
    | succ d ih =>
      intro i h1 h2
      refine Ev.step (fun k => bywashbook_SameFrames.l0.eq_2 ..) (Ev_ite (fun h => Ev_pos (by omega) (Ev_pos h (Ev_pos (by simp) ?_))) fun _ => Ev_some rfl)
      rw [wid (x := (i : Int) + 1) (by omega) (by omega)]
      exact ih (i + 1) (by omega) (by omega)
  unfold bywashbook_SameFrames.f
  exact Ev_pos rfl (key l.length 0 (by omega) (by omega))
theorem marked_ev (ls : List (List E)) (hk : ls.length ≤ 1000) (h : ∀ j : Nat, j < ls.length → rd_L8 ls (j : Int) = marks (j : Int) 0 (rd_L8 ls (j : Int)).length ∧ (rd_L8 ls (j : Int)).length ≤ 100000) : Ev (fun k => bywashbook_markedFrames.f k ls) true := by
  have key : ∀ (d i : Nat), ls.length ≤ i + d → i ≤ ls.length → Ev (fun k => bywashbook_markedFrames.l0 k ls (i : Int)) true := by
    intro d
    induction d with
    | zero => intro i h1 h2; exact Ev.step (fun k => bywashbook_markedFrames.l0.eq_2 ..) (Ev_neg (by omega) (Ev_some rfl))
    | succ d ih =>
      intro i h1 h2
      refine Ev.step (fun k => bywashbook_markedFrames.l0.eq_2 ..) (Ev_ite (fun hi => Ev_pos (by omega) ?_) fun _ => Ev_some rfl)
      obtain ⟨e, hz⟩ := h i (by omega)
      have hm := mark_ev (i : Int) 0 (rd_L8 ls (i : Int)).length (by omega)
      rw [← e] at hm
      refine Ev.bind hm (Ev.bind (same_ev _ (by omega)) (Ev_pos rfl ?_))
      rw [wid (x := (i : Int) + 1) (by omega) (by omega)]
      exact ih (i + 1) (by omega) (by omega)
  unfold bywashbook_markedFrames.f
  exact key ls.length 0 (by omega) (by omega)

theorem Reps.take_ {α : Type} {R : α → List Value → Prop} {size : Nat} {ps : List α} {cs : List Value} (h : Reps R size ps cs) (m : Nat) (hm : m ≤ ps.length) : Reps R size (ps.take m) (cs.take (m * size)) := by
  refine ⟨by rw [List.length_take, List.length_take, h.1, Nat.min_eq_left hm, Nat.min_eq_left (Nat.mul_le_mul_right _ hm)], fun j p hp => ?_⟩
  rw [List.getElem?_take] at hp
  split at hp
  · rename_i hj
    have h2 := h.2 j p hp
    rw [List.drop_take, List.take_take, Nat.min_eq_left (by rw [← Nat.sub_mul]; exact Nat.le_mul_of_pos_left _ (by omega))]
    exact h2
  · cases hp
/-- The head of a row in the same block. -/
theorem Own.head {w : World} {base b n cap m : Nat} {xs : List E} (h : Own w base (.slice (some ⟨b, 0, none⟩) n cap) xs) (hm : m ≤ n) : Own w base (.slice (some ⟨b, 0, none⟩) m cap) (xs.take m) := by
  have hn := (Kd.R_reads' h).1
  obtain ⟨_, inner, ho, hr⟩ := h
  refine ⟨fun _ _ => trivial, inner.take (m * 4), ?_, (Reps.take_ hr m (by omega)).imp_ (fun _ _ hq => M_any hq)⟩
  rcases ho.2 with ⟨hv, _⟩ | ⟨g, cap', cur, hv, hbg, hgh, hnc, hcm, hcs, htake⟩
  · cases hv
  · injection hv with ha hn' hc
    injection ha with ha
    injection ha with hb
    subst hb; subst hc
    have hil : inner.length = n * 4 := by have := ho.1; rw [← hn] at this; exact this
    have hml : (xs.take m).length = m := by rw [List.length_take]; omega
    rw [hml]
    refine ⟨by rw [List.length_take, hil]; show min (m * 4) (n * 4) = m * 4; omega, .inr ⟨b, cap, cur, rfl, hbg, hgh, by omega, hcm, hcs, ?_⟩⟩
    have e := congrArg (List.take (m * 4)) htake
    rw [List.take_take] at e
    rw [← e]
    show cur.toList.take (m * 4) = cur.toList.take (min (m * 4) (xs.length * 4))
    rw [Nat.min_eq_left (by omega)]
end Go.Proofs.Ytdonanibfifodaa.Book
