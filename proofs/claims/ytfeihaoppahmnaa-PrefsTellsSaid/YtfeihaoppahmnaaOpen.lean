/- What a parameter of the law holds, read as data, is told as the printed functions tell it: whole numbers, bools, strings, slices and structs of these. Conditions: the types are the ones named. -/
import Derived.Test.YtfeihaoppahmnaaWMore
import Derived.Test.YtfeihaoppahmnaaWSized
import Derived.Deep.Slices
import Derived.ChangeArms
import Derived.SizedLaws
import Derived.DataReads
import Derived.Carry
import Derived.OpenShut
import Derived.ShutString
namespace Go.Proofs.Ytfeihaoppahmnaa.Open
open Go.ChangeShapes Go.WideShapes Go.Deep Go.RowKit Go.Proofs.YtfeihaoppahmnaaW.PrintWords
set_option linter.unusedVariables false

/-- All that a reading of type t can hold is told by kind d, and G holds of it. -/
def Opens (P : Program) (t : TypeId) {α : Type} (d : Kd α) (G : α → Prop) : Prop :=
  ∀ (H : Type) (enc : TypeId × Value → H) (W : World) (base : Nat) (spare : Nat → Bool) (held : Bool) (fuel : Nat) (cs : List Value) (x : DataW H × List MemPlace),
    DataW.trod enc P W base spare held fuel t cs = some x → (∀ n ∈ x.1.weights P t, n ≤ reachBytes) → ∃ a, d.K W a cs ∧ G a

theorem opens_int {P : Program} {t : TypeId} {k : IntKind} (ht : P.underlying t = some (.int k)) : Opens P t (Kd.int k) (fun n => (Lit.int k n).wf = true) := by
  intro H enc W base spare held fuel cs x h _
  obtain ⟨n, rfl, _, hw⟩ := DataW.trod_int ht h
  exact ⟨n, rfl, hw⟩
theorem opens_bool {P : Program} {t : TypeId} (ht : P.underlying t = some .bool) : Opens P t Kd.bool (fun _ => True) := by
  intro H enc W base spare held fuel cs x h _
  obtain ⟨b, rfl, _⟩ := DataW.trod_bool ht h
  exact ⟨b, rfl, trivial⟩
theorem opens_string {P : Program} {t : TypeId} (ht : P.underlying t = some .string) : Opens P t Kd.string (fun s => s.size ≤ 140737488351232) := by
  intro H enc W base spare held fuel cs x h hz
  obtain ⟨s, rfl, rfl, _⟩ := DataW.trod_string ht h
  refine ⟨s, rfl, ?_⟩
  have z := hz s.data.toList.length (by simp [DataW.weights])
  rw [Array.length_toList] at z
  exact z

theorem weightsAll_mem {H : Type} {P : Program} {e : TypeId} {d : DataW H} {n : Nat} (hn : n ∈ d.weights P e) : ∀ {l : List (DataW H)}, d ∈ l → n ∈ DataW.weightsAll P e l
  | [], h => by cases h
  | y :: l, h => by
    simp only [DataW.weightsAll, List.mem_append]
    rcases List.mem_cons.1 h with h | h
    · subst h; exact .inl hn
    · exact .inr (weightsAll_mem hn h)

theorem opens_slice {P : Program} {t e : TypeId} {α : Type} [Inhabited α] {d : Kd α} {G : α → Prop} {B : Nat} (q : Nat) (ht : P.underlying t = some (.slice e)) (hB : P.bytesOf e = B) (hs : P.cellsOf e = d.sz) (he : Opens P e d G) :
    Opens P t (Kd.slice q d) (fun l => l.length ≤ maxLen ∧ l.length * B ≤ 140737488351232 ∧ ∀ x ∈ l, G x) := by
  intro H enc W base spare held fuel cs x h hz
  rcases open_slice ht h with ⟨rfl, _⟩ | ⟨a, len, cap, m, n, D, Pl, rfl, _, hl, hm, hmm, hx, hi⟩
  · refine ⟨[], ⟨none, 0, rfl, Nat.le_refl _, rfl, Nat.zero_le _, fun h => absurd h (Nat.lt_irrefl _)⟩, Nat.zero_le _, by simp, by simp⟩
  · have hlm : len ≤ m := by rw [hmm]; split <;> omega
    rw [hx] at hz
    have key : ∀ i, i < len → ∃ y, (∃ c, c.length = d.sz ∧ d.K W y c ∧ ∀ j u, c[j]? = some u → W.cell? (a.add (i * d.sz + j)) = some u) ∧ G y := by
      intro i hil
      obtain ⟨c, hc, htr⟩ := hi i (by omega)
      have hzi : ∀ k ∈ (D i).weights P e, k ≤ reachBytes := by
        intro k hk
        apply hz
        have hm1 : k ∈ DataW.weightsAll P e ((List.range len).map D) := weightsAll_mem hk (List.mem_map.2 ⟨i, List.mem_range.2 hil, rfl⟩)
        simp only [DataW.weights, ht, List.mem_cons, List.mem_append]
        exact .inr (.inl hm1)
      obtain ⟨y, hK, hG⟩ := he H enc W base spare held n c (D i, Pl i) htr hzi
      obtain ⟨_, hcl, hat⟩ := World.cells?_some hc
      refine ⟨y, ⟨c, by rw [hcl, hs], hK, fun j u hu => ?_⟩, hG⟩
      have hj : j < P.cellsOf e := by rw [← hcl]; exact (List.getElem?_eq_some_iff.1 hu).1
      have := hat j hj
      rw [Go.Deep.add_add, hs] at this
      rw [this]; exact hu
    obtain ⟨f, hf⟩ := choose_lt key
    have hL : ((List.range len).map f).length = len := by simp
    refine ⟨(List.range len).map f, ⟨some a, cap, by rw [hL], by rw [hL]; exact hl, rfl, ?_, fun _ => ⟨a, rfl, fun j p hp => ?_⟩⟩, by rw [hL]; omega, ?_, ?_⟩
    · rw [hL]; unfold maxLen at hm; omega
    · have hj : j < len := by
        have := (List.getElem?_eq_some_iff.1 hp).1
        rwa [hL] at this
      have hp' : p = f j := by
        rw [List.getElem?_map, List.getElem?_range hj] at hp
        exact (Option.some.inj hp).symm
      subst hp'
      exact (hf j hj).1
    · rw [hL]
      have hz1 : (((List.range len).map D).length + ((List.range (m - len)).map fun j => D (len + j)).length) * P.bytesOf e ≤ reachBytes := by
        apply hz
        simp only [DataW.weights, ht, List.mem_cons]
        exact .inl trivial
      rw [hB] at hz1
      simp only [List.length_map, List.length_range] at hz1
      exact Nat.le_trans (Nat.mul_le_mul_right B (by omega)) hz1
    · intro y hy
      obtain ⟨i, hi', rfl⟩ := List.mem_map.1 hy
      exact (hf i (List.mem_range.1 hi')).2

/-- Fields of a struct from number i on, their cells from cell 'off' on. -/
def OpensFs (P : Program) (off : Nat) (fs : List Field) {α : Type} (d : Kd α) (G : α → Prop) : Prop :=
  ∀ (H : Type) (enc : TypeId × Value → H) (W : World) (base : Nat) (spare : Nat → Bool) (held : Bool) (fuel : Nat) (cs : List Value) (xs : List (DataW H × List MemPlace)),
    xs.length = fs.length → cs.length = off + d.sz →
    (∀ (i : Nat) (f : Field), fs[i]? = some f → DataW.trod enc P W base spare held fuel f.type ((cs.drop f.offset).take (P.cellsOf f.type)) = xs[i]?) →
    (∀ n ∈ DataW.weightsEach P (fs.map (·.type)) (xs.map (·.1)), n ≤ reachBytes) → ∃ a, d.K W a (cs.drop off) ∧ G a

theorem opensFs_one {P : Program} {off : Nat} {f : Field} {α : Type} {d : Kd α} {G : α → Prop} (ho : f.offset = off) (hs : P.cellsOf f.type = d.sz) (h : Opens P f.type d G) : OpensFs P off [f] d G := by
  intro H enc W base spare held fuel cs xs hl hcl hx hz
  have h0 := hx 0 f rfl
  obtain ⟨x, rfl⟩ : ∃ x, xs = [x] := by
    match xs, hl with
    | [x], _ => exact ⟨x, rfl⟩
  simp only [List.getElem?_cons_zero] at h0
  rw [ho, hs, List.take_of_length_le (by rw [List.length_drop]; omega)] at h0
  exact h H enc W base spare held fuel _ x h0 (fun n hn => hz n (by simp only [List.map, DataW.weightsEach, List.mem_append]; exact .inl hn))

theorem opensFs_cons {P : Program} {off off' : Nat} {f : Field} {fs : List Field} {α β : Type} {d : Kd α} {G : α → Prop} {d' : Kd β} {G' : β → Prop} (ho : f.offset = off) (hs : P.cellsOf f.type = d.sz) (ho' : off + d.sz = off') (h : Opens P f.type d G)
    (hr : OpensFs P off' fs d' G') : OpensFs P off (f :: fs) (Kd.pair d d') (fun p => G p.1 ∧ G' p.2) := by
  intro H enc W base spare held fuel cs xs hl hcl hx hz
  obtain ⟨x, xs, rfl⟩ : ∃ x ys, xs = x :: ys := by
    match xs, hl with
    | x :: ys, _ => exact ⟨x, ys, rfl⟩
  have hcl' : cs.length = off + (d.sz + d'.sz) := hcl
  have h0 := hx 0 f rfl
  simp only [List.getElem?_cons_zero] at h0
  rw [ho, hs] at h0
  obtain ⟨a, ha, hGa⟩ := h H enc W base spare held fuel _ x h0 (fun n hn => hz n (by simp only [List.map, DataW.weightsEach, List.mem_append]; exact .inl hn))
  obtain ⟨b, hb, hGb⟩ := hr H enc W base spare held fuel cs xs (by simpa using hl) (by omega) (fun i g hg => by simpa using hx (i + 1) g (by simpa using hg)) (fun n hn => hz n (by simp only [List.map, DataW.weightsEach, List.mem_append]; exact .inr hn))
  refine ⟨(a, b), ⟨(cs.drop off).take d.sz, (cs.drop off).drop d.sz, (List.take_append_drop _ _).symm, ha, ?_⟩, hGa, hGb⟩
  rw [List.drop_drop, ho']
  exact hb

theorem opens_struct {P : Program} {t : TypeId} {fs : List Field} {α β : Type} {d : Kd α} {G : α → Prop} (f : β → α) (g : α → β) (hfg : ∀ a, f (g a) = a) (ht : P.underlying t = some (.struct fs.toArray)) (hs : P.cellsOf t = d.sz) (h : OpensFs P 0 fs d G) :
    Opens P t (Kd.iso d f) (fun b => G (f b)) := by
  intro H enc W base spare held fuel cs x hx hz
  obtain ⟨xs, n, _, rfl, hcl, hl, hi⟩ := DataW.trod_struct ht hx
  obtain ⟨a, ha, hG⟩ := h H enc W base spare held n cs xs (by simpa using hl) (by rw [hcl, hs, Nat.zero_add]) (fun i g hg => hi i g (by simpa using hg)) (fun n hn => hz n (by simp only [DataW.weights, ht]; exact hn))
  refine ⟨g a, ?_, ?_⟩
  · show d.K W (f (g a)) cs
    rw [hfg]; exact ha
  · show G (f (g a))
    rw [hfg]; exact hG

/-- A whole argument: its cells are what the kind tells. -/
theorem opens_arg {P : Program} {t : TypeId} {α : Type} {d : Kd α} {G : α → Prop} (h : Opens P t d G) {H : Type} {enc : TypeId × Value → H} {W : World} {base : Nat} {spare : Nat → Bool} {held : Bool} {v : Value} {x : DataW H} {ps : List MemPlace}
    {ts : List TypeId} {ds : List (DataW H)} {j : Nat} (hsz : (DataW.weightsEach P ts ds).all (· ≤ reachBytes) = true) (ht : ts[j]? = some t) (hd : ds[j]? = some x) (hv : DataW.Trod enc P W base spare held t v x ps) :
    ∃ a, d.K W a v.cells.toList ∧ G a := by
  obtain ⟨fuel, hf⟩ := hv
  refine h H enc W base spare held fuel _ (x, ps) hf (fun n hn => ?_)
  have := List.all_eq_true.1 hsz n (DataW.weights_mem_each ht hd n hn)
  simpa using this

/-- A slice that came in. -/
theorem opens_arg_slice {P : Program} {t e : TypeId} {α : Type} {q : Nat} {d : Kd α} {G : List α → Prop} (h : Opens P t (Kd.slice q d) G) (hu : P.underlying t = some (.slice e)) {H : Type} {enc : TypeId × Value → H} {W : World} {r : Reach} {b0 base : Nat} {spare : Nat → Bool} {held : Bool} {v : Value} {x : DataW H} {ps : List MemPlace}
    {ts : List TypeId} {ds : List (DataW H)} {j : Nat} (hval : Value.okWide P W r b0 t v) (hsz : (DataW.weightsEach P ts ds).all (· ≤ reachBytes) = true) (ht : ts[j]? = some t) (hd : ds[j]? = some x) (hv : DataW.Trod enc P W base spare held t v x ps) :
    ∃ (A : Option Addr) (c : Nat) (l : List α), v = .slice A l.length c ∧ l.length ≤ c ∧ d.C W A l.length l ∧ G l := by
  obtain ⟨A, len, cap, rfl⟩ := okWide_slice hu hval
  obtain ⟨l, ⟨A', c, hc, hl, hC⟩, hG⟩ := opens_arg h hsz ht hd hv
  simp [Value.cells] at hc
  obtain ⟨rfl, rfl, rfl⟩ := hc
  exact ⟨_, _, l, rfl, hl, hC, hG⟩

end Go.Proofs.Ytfeihaoppahmnaa.Open
