/- Frames joined, and what a splitter's next answer is while frames come in pieces: plain laws. Conditions: those of each. -/
import Derived.Test.YtndchendimbfnaaPureSplitPieces
namespace Go.Proofs.Ytndchendimbfnaa.Close
open Go.RowKit Go.Proofs.YtndchendimbfnaaW.PrintWords Go.Proofs.YtndchendimbfnaaW.PrintLast Go.Proofs.YtndchendimbfnaaW.PrintMore Go.Proofs.Ytndchendimbfnaa.Aid Go.Proofs.Ytndchendimbfnaa.PSplitPieces Go.Proofs.Ytndchendimbfnaa.Pure
set_option linter.unusedVariables false
set_option linter.unusedSimpArgs false

structure SF where
  f0 : Int
  f1 : Int
  f2 : Int
  f3 : ByteArray
def zF : SF := ⟨(0 : Int), (0 : Int), (0 : Int), (⟨#[]⟩ : ByteArray)⟩
def kF : Kd SF := Kd.iso (Kd.pair (Kd.int .i64) (Kd.pair (Kd.int .i64) (Kd.pair (Kd.int .i64) Kd.string))) (fun x : SF => (x.f0, x.f1, x.f2, x.f3))
theorem kF_open {w : World} {x : SF} {cs : List Value} (h : kF.K w x cs) : cs = [.int .i64 x.f0, .int .i64 x.f1, .int .i64 x.f2, .string x.f3] := by
  obtain ⟨_, _, rfl, rfl, ⟨_, _, rfl, rfl, ⟨_, _, rfl, rfl, rfl⟩⟩⟩ := h
  exact rfl
theorem kF_openM {w : World} {base : Nat} {ok : Nat → Prop} {x : SF} {cs : List Value} (h : kF.M w base ok x cs) : cs = [.int .i64 x.f0, .int .i64 x.f1, .int .i64 x.f2, .string x.f3] := by
  obtain ⟨_, _, rfl, rfl, ⟨_, _, rfl, rfl, ⟨_, _, rfl, rfl, rfl⟩⟩⟩ := h
  exact rfl
theorem kF_mk (w : World) (x : SF)  : kF.K w x [.int .i64 x.f0, .int .i64 x.f1, .int .i64 x.f2, .string x.f3] := ⟨[.int .i64 x.f0], [.int .i64 x.f1, .int .i64 x.f2, .string x.f3], rfl, rfl, ⟨[.int .i64 x.f1], [.int .i64 x.f2, .string x.f3], rfl, rfl, ⟨[.int .i64 x.f2], [.string x.f3], rfl, rfl, rfl⟩⟩⟩
theorem kF_mkM (w : World) (base : Nat) (ok : Nat → Prop) (x : SF)  : kF.M w base ok x [.int .i64 x.f0, .int .i64 x.f1, .int .i64 x.f2, .string x.f3] := ⟨[.int .i64 x.f0], [.int .i64 x.f1, .int .i64 x.f2, .string x.f3], rfl, rfl, ⟨[.int .i64 x.f1], [.int .i64 x.f2, .string x.f3], rfl, rfl, ⟨[.int .i64 x.f2], [.string x.f3], rfl, rfl, rfl⟩⟩⟩
def rdF (xs : List SF) (i : Int) : SF := xs.getD i.toNat zF
theorem atF {w : World} {A : Option Addr} {n : Nat} {xs : List SF} (h : Kd.C kF w A n xs) (i : Int) (h0 : 0 ≤ i) (h1 : i < n) : ∃ ad , A = some ad ∧ w.cell? (ad.add (i.toNat * 4)) = some (.int .i64 (rdF xs i).f0) ∧ w.cell? ⟨(ad.add (i.toNat * 4)).block, (ad.add (i.toNat * 4)).off + 1, none⟩ = some (.int .i64 (rdF xs i).f1) ∧ w.cell? ⟨(ad.add (i.toNat * 4)).block, (ad.add (i.toNat * 4)).off + 2, none⟩ = some (.int .i64 (rdF xs i).f2) ∧ w.cell? ⟨(ad.add (i.toNat * 4)).block, (ad.add (i.toNat * 4)).off + 3, none⟩ = some (.string (rdF xs i).f3) := by
  obtain ⟨ad, c, e, _, hK, hc0⟩ := Kd.C_get h zF i h0 h1
  have hc : ∀ j u, c[j]? = some u → w.cell? (ad.add (i.toNat * 4 + j)) = some u := hc0
  obtain rfl := kF_open hK
  exact ⟨ad, e, hc 0 _ rfl, by rw [← add_field _ _ 1 (by omega)]; exact hc 1 _ rfl, by rw [← add_field _ _ 2 (by omega)]; exact hc 2 _ rfl, by rw [← add_field _ _ 3 (by omega)]; exact hc 3 _ rfl⟩

def joined : List SF → ByteArray
  | [] => ⟨#[]⟩
  | x :: xs => putv x.f0 x.f1 x.f2 x.f3 ++ joined xs
def okS (m : Int) (x : SF) : Prop := rightB x.f0 x.f1 x.f2 x.f3 = true ∧ (x.f3.size : Int) ≤ m
theorem drop_rd (l : List SF) (i : Nat) (h : i < l.length) : l.drop i = rdF l (i : Int) :: l.drop (i + 1) := by
  unfold rdF
  rw [Int.toNat_natCast, List.drop_eq_getElem_cons h, List.getD_eq_getElem?_getD, List.getElem?_eq_getElem h]; rfl

theorem data_inj {a b : ByteArray} (h : a.data.toList = b.data.toList) : a = b := by
  cases a with
  | mk x => cases b with
    | mk y => have : x = y := by simpa using h
              rw [this]
theorem data_app (a b : ByteArray) : (a ++ b).data.toList = a.data.toList ++ b.data.toList := by simp
theorem split_long (a r p q : ByteArray) (h : a ++ r = p ++ q) (hs : p.size ≤ a.size) : ∃ a2, a = p ++ a2 ∧ a2 ++ r = q := by
  have h1 : a.data.toList ++ r.data.toList = p.data.toList ++ q.data.toList := by rw [← data_app, ← data_app, h]
  have hl : p.data.toList.length ≤ a.data.toList.length := by simpa using hs
  obtain ⟨z, hz1, hz2⟩ : ∃ z, a.data.toList = p.data.toList ++ z ∧ z ++ r.data.toList = q.data.toList := by
    rcases List.append_eq_append_iff.1 h1 with ⟨z, e1, e2⟩ | ⟨z, e1, e2⟩
    · have : z = [] := by
        have h3 := congrArg List.length e1
        rw [List.length_append] at h3
        cases z with
        | nil => rfl
        | cons x y => simp at h3 hl; omega
      subst this
      exact ⟨[], by simpa using e1.symm, by simpa using e2⟩
    · exact ⟨z, e1, e2.symm⟩
  refine ⟨⟨z.toArray⟩, data_inj ?_, data_inj ?_⟩
  · rw [data_app]; exact hz1
  · rw [data_app]; exact hz2
theorem split_short (a r p q : ByteArray) (h : a ++ r = p ++ q) (hs : a.size < p.size) : a = p.extract 0 a.size ∧ r ≠ ⟨#[]⟩ := by
  have h1 : a.data.toList ++ r.data.toList = p.data.toList ++ q.data.toList := by rw [← data_app, ← data_app, h]
  have hl : a.data.toList.length < p.data.toList.length := by simpa using hs
  obtain ⟨z, hz1, hz2⟩ : ∃ z, p.data.toList = a.data.toList ++ z ∧ r.data.toList = z ++ q.data.toList := by
    rcases List.append_eq_append_iff.1 h1 with ⟨z, e1, e2⟩ | ⟨z, e1, e2⟩
    · exact ⟨z, e1, e2⟩
    · have h3 := congrArg List.length e1
      rw [List.length_append] at h3
      omega
  constructor
  · apply data_inj
    have : (p.extract 0 a.size).data.toList = p.data.toList.take a.size := by simp
    rw [this, hz1, List.take_append_of_le_length (by simp), List.take_of_length_le (by simp)]
  · rintro rfl
    have h3 := congrArg List.length hz1
    have h4 := congrArg List.length hz2
    simp at h3 h4 hl
    omega
/-- What next answers, where what is held and what is still to come are frames, one behind the other. -/
theorem next_cases (buf rest : ByteArray) (m : List SF) (hok : ∀ x ∈ m, okS 512 x) (h : buf ++ rest = joined m) :
    (∃ x xs buf2, m = x :: xs ∧ nextv buf 512 false = (x.f0, x.f1, x.f2, x.f3, true, 0, buf2, 512, false) ∧ buf2 ++ rest = joined xs) ∨
    (nextv buf 512 false = (0, 0, 0, (⟨#[]⟩ : ByteArray), false, 0, buf, 512, false) ∧ (rest = ⟨#[]⟩ → m = [] ∧ buf = ⟨#[]⟩)) := by
  cases m with
  | nil =>
    have hb : buf = ⟨#[]⟩ := by
      have h2 := congrArg ByteArray.size h
      rw [ByteArray.size_append] at h2
      have h3 : (joined []).size = 0 := rfl
      apply data_inj
      have : buf.data.toList.length = 0 := by
        have : buf.data.toList.length = buf.size := by simp
        omega
      rw [List.length_eq_zero_iff.1 this]
    right
    subst hb
    exact ⟨next_nil 512 (by decide), fun _ => ⟨rfl, rfl⟩⟩
  | cons x xs =>
    have hx := hok x (List.mem_cons_self ..)
    have hs := putv_size x.f0 x.f1 x.f2 x.f3
    by_cases hl : (putv x.f0 x.f1 x.f2 x.f3).size ≤ buf.size
    · obtain ⟨b2, e1, e2⟩ := split_long buf rest _ _ h hl
      left
      refine ⟨x, xs, b2, rfl, ?_, e2⟩
      rw [e1]
      exact next_frame _ _ _ _ _ _ hx.1 hx.2
    · obtain ⟨e1, e2⟩ := split_short buf rest _ _ h (by omega)
      right
      refine ⟨?_, fun hr => absurd hr e2⟩
      have := next_short x.f0 x.f1 x.f2 x.f3 512 hx.1 hx.2 buf.size (by omega)
      rwa [← e1] at this
end Go.Proofs.Ytndchendimbfnaa.Close
