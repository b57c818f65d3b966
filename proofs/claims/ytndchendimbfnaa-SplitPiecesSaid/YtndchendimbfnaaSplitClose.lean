/- What the closure of SplitPieces does: its contract. Conditions: those that it names. -/
import Derived.Test.YtndchendimbfnaaSplitFrames
import Derived.WalkKit
import Derived.Below
import Derived.RowKitTokens
import Derived.Deep.RegionWith
import Derived.Deep.QuietTactic
import Derived.BigQuiet
import Derived.Lib.Hide
namespace Go.Proofs.Ytndchendimbfnaa.Close
open Go.RowKit Go.Proofs.YtndchendimbfnaaW.PrintWords Go.Proofs.YtndchendimbfnaaW.PrintLast Go.Proofs.YtndchendimbfnaaW.PrintMore Go.Proofs.Ytndchendimbfnaa.Aid Go.Proofs.Ytndchendimbfnaa.PSplitPieces Go.Proofs.Ytndchendimbfnaa.Pure
set_option linter.unusedVariables false
set_option linter.unusedSimpArgs false

/-- The captured variables and the splitter, in a world. -/
structure Held (w0 w : World) (bs bk bl g : Nat) (A : Option Addr) (cp : Nat) (l : List SF) (k : Nat) (buf : ByteArray) : Prop where
  hs : w.heap[bs]? = some (.cells #[.pointer (some ⟨g, 0, none⟩)] 53 (0, 0))
  hk : w.heap[bk]? = some (.cells #[.int .i64 (k : Int)] 3 (0, 0))
  hl : w.heap[bl]? = some (.cells #[.slice A l.length cp] 48 (0, 0))
  st : IsS96 w0 w g buf 512 false
  below : Below w0.heap.size w0 w
  ge : w0.heap.size ≤ bs ∧ w0.heap.size ≤ bk ∧ w0.heap.size ≤ bl
  le : k ≤ l.length
/-- What k's cell tells. -/
def kOf (w : World) (b : Nat) : Nat := match w.cell? ⟨b, 0, none⟩ with | some v => (intOf v).toNat | none => 0
theorem kOf_eq {w : World} {bk k : Nat} {t : TypeId} (h : w.heap[bk]? = some (.cells #[.int .i64 (k : Int)] t (0, 0))) : kOf w bk = k := by
  unfold kOf
  rw [cell_of_one h]
  simp [intOf]
theorem cell_lt {W : World} {a : Addr} {v : Value} (h : W.cell? a = some v) : a.block < W.heap.size := by
  rcases Nat.lt_or_ge a.block W.heap.size with h1 | h1
  · exact h1
  · simp [World.cell?, Array.getElem?_eq_none h1] at h

theorem held_next {w0 w w1 : World} {bs bk bl g : Nat} {A : Option Addr} {cp : Nat} {l : List SF} {k : Nat} {b b' : ByteArray} (H : Held w0 w bs bk bl g A cp l k b) (h1 : g ≠ bs) (h2 : g ≠ bk) (h3 : g ≠ bl) (hI : IsS96 w0 w1 g b' 512 false) (hB : Below w0.heap.size w0 w1) (hk : KeepBut w w1 g none) : Held w0 w1 bs bk bl g A cp l k b' :=
  ⟨(hk.2 bs (lt_of_block H.hs) (fun h => h1 h.symm) (by simp)).trans H.hs, (hk.2 bk (lt_of_block H.hk) (fun h => h2 h.symm) (by simp)).trans H.hk, (hk.2 bl (lt_of_block H.hl) (fun h => h3 h.symm) (by simp)).trans H.hl, hI, hB, H.ge, H.le⟩

theorem held_alloc {w0 w : World} {bs bk bl g : Nat} {A : Option Addr} {cp : Nat} {l : List SF} {k : Nat} {b : ByteArray} (H : Held w0 w bs bk bl g A cp l k b) (o : Obj) : Held w0 (w.alloc o) bs bk bl g A cp l k b :=
  ⟨(Below.heap_alloc _ _ _ (lt_of_block H.hs)).trans H.hs, (Below.heap_alloc _ _ _ (lt_of_block H.hk)).trans H.hk, (Below.heap_alloc _ _ _ (lt_of_block H.hl)).trans H.hl, H.st.alloc o, H.below.alloc H.below.size o, H.ge, H.le⟩
theorem held_drew {w0 w : World} {bs bk bl g : Nat} {A : Option Addr} {cp : Nat} {l : List SF} {k : Nat} {b : ByteArray} (H : Held w0 w bs bk bl g A cp l k b) (n : Nat) : Held w0 (w.drewN n) bs bk bl g A cp l k b :=
  ⟨H.hs, H.hk, H.hl, H.st, ⟨H.below.os, H.below.tape, H.below.output, H.below.size, H.below.block⟩, H.ge, H.le⟩
theorem held_set {w0 w : World} {bs bk bl g : Nat} {A : Option Addr} {cp : Nat} {l : List SF} {k : Nat} {b : ByteArray} (H : Held w0 w bs bk bl g A cp l k b) (hk : k < l.length) : Held w0 (w.setCell ⟨bk, 0, none⟩ (.int .i64 ((k + 1 : Nat) : Int))) bs bk bl g A cp l (k + 1) b := by
  have n1 : bs ≠ bk := by rintro rfl; have := H.hs.symm.trans H.hk; simp at this
  have n2 : bl ≠ bk := by rintro rfl; have := H.hl.symm.trans H.hk; simp at this
  have n3 : g ≠ bk := H.st.ne_blk H.hk (by decide)
  exact ⟨(Below.heap_setCell _ _ _ _ n1).trans H.hs, one_setCell H.hk, (Below.heap_setCell _ _ _ _ n2).trans H.hl, H.st.far n3 _, H.below.setCell H.ge.2.1 _, H.ge, hk⟩

theorem close_any (w0 : World) (bs bk bl g : Nat) (A : Option Addr) (cp : Nat) (l : List SF) (hC : Kd.C kF w0 A l.length l) (hcp : l.length ≤ cp) (hlen : l.length ≤ 30) (hok : ∀ x ∈ l, okS 512 x) (w : World) (k : Nat) (buf rest : ByteArray)
    (H : Held w0 w bs bk bl g A cp l k buf) (hj : buf ++ rest = joined (l.drop k)) (hsz : buf.size ≤ 1099511627776) :
    Calls Try.prog 22 #[.pointer (some ⟨bs, 0, none⟩), .pointer (some ⟨bk, 0, none⟩), .pointer (some ⟨bl, 0, none⟩)] w fun e w' =>
      e = .returned (.bool true) ∧ ∃ k' buf', Held w0 w' bs bk bl g A cp l k' buf' ∧ buf' ++ rest = joined (l.drop k') ∧ buf'.size ≤ buf.size ∧ (rest = ⟨#[]⟩ → k' = l.length ∧ buf' = ⟨#[]⟩) := by
  have HC := Aside0.mk hC
  have HCP := Aside0.mk hcp
  have HL := Aside0.mk hlen
  have HO := Aside0.mk hok
  have H0 := Aside0.mk H
  have J0 := Aside0.mk hj
  have Z0 := Aside0.mk hsz
  clear hC hcp hlen hok H hj hsz
  go_enter Try.func22, Try.ntmps22
  go_wp2
  go_loopw [] (fun wl => ∃ (k : Nat) (b2 : ByteArray), Aside0 (Held w0 wl bs bk bl g A cp l k b2 ∧ b2 ++ rest = joined (l.drop k) ∧ b2.size ≤ buf.size)) (fun wl => l.length - kOf wl bk)
  case atStart => exact ⟨k, buf, ⟨H0.out, J0.out, Nat.le_refl _⟩⟩
  case round =>
    obtain ⟨k, b2, HH⟩ := hrel
    have hst := HH.out.1.st
    have c1 := cell_of_one HH.out.1.hs
    have c2 := cell_of_one HH.out.1.hk
    have c3 := cell_of_one HH.out.1.hl
    obtain ⟨K, hK⟩ := next_ev b2 512 false (Nat.le_trans HH.out.2.2 Z0.out)
    have hX := hK K (Nat.le_refl _)
    rcases next_cases b2 rest (l.drop k) (fun x hx => HO.out x (List.mem_of_mem_drop hx)) HH.out.2.1 with ⟨x, xs, b3, ex, en, ej⟩ | ⟨en, ej⟩
    · rw [en] at hX
      have HN := split_Splitter_Next.calls K g b2 512 false _ _ _ _ _ _ _ _ _ w0 wr hst HH.out.1.below hX
      have hkl : k < l.length := by
        rcases Nat.lt_or_ge k l.length with h | h
        · exact h
        · rw [List.drop_eq_nil_of_le h] at ex; cases ex
      have ed := drop_rd l k hkl
      rw [ex] at ed
      obtain ⟨exr, exs⟩ := List.cons.inj ed
      subst exs
      obtain ⟨ad, eA, a0, a1, a2, a3⟩ := atF HC.out (k : Int) (by omega) (by omega)
      rw [← exr] at a0 a1 a2 a3
      simp only [Int.toNat_natCast] at a0 a1 a2 a3
      have hns := hst.ne_blk HH.out.1.hs (by decide)
      have hnk := hst.ne_blk HH.out.1.hk (by decide)
      have hnl := hst.ne_blk HH.out.1.hl (by decide)
      have A0 := Lib.hid a0
      have A1 := Lib.hid a1
      have A2 := Lib.hid a2
      have A3 := Lib.hid a3
      have hkl1 : decide ((l.length : Int) ≤ (k : Int)) = false := decide_eq_false (by omega)
      have hj3 := Aside0.mk ej
      have hwrap := Aside0.mk (show wrap64 ((k : Int) + 1) = ((k + 1 : Nat) : Int) from by unfold wrap64; have := HL.out; omega)
      have hb3 := Aside0.mk (show b3.size ≤ buf.size from by
        have e := HH.out.2.1
        rw [ex, show joined (x :: l.drop (k + 1)) = putv x.f0 x.f1 x.f2 x.f3 ++ joined (l.drop (k + 1)) from rfl, ← ej] at e
        have h1 := congrArg ByteArray.size e
        rw [ByteArray.size_append, ByteArray.size_append, ByteArray.size_append] at h1
        have h2 := HH.out.2.2
        omega)
      subst eA
      clear hX hK en ex ej exr ed hst a0 a1 a2 a3
      go_wp2_with ((go_at_call 23; refine HN.mono ?_; rintro e w1 ⟨rfl, hI1, hB1, hk1⟩; clear HN; have hH1 := Aside0.mk (held_alloc (held_next HH.out.1 hns hnk hnl hI1 hB1 hk1) (.cells #[.int .i64 x.f0, .int .i64 x.f1, .int .i64 x.f2, .string x.f3] 50)); have d1 := cell_of_one hH1.out.hs; have d2 := cell_of_one hH1.out.hk; have d3 := cell_of_one hH1.out.hl; have d4 := free_of_one hH1.out.hk; have e0 := (hH1.out.below.cell (cell_lt A0.out)).trans A0.out; have e1 := (hH1.out.below.cell (cell_lt A1.out)).trans A1.out; have e2 := (hH1.out.below.cell (cell_lt A2.out)).trans A2.out; have e3 := (hH1.out.below.cell (cell_lt A3.out)).trans A3.out; clear hI1 hB1 hk1))
      (try go_quiet (fail))
      (try go_wp2)
      have hk0 := kOf_eq HH.out.1.hk
      rw [hwrap.out]
      have hend := held_set (held_drew hH1.out nq) hkl
      refine ⟨⟨k + 1, b3, ⟨hend, hj3.out, hb3.out⟩⟩, ?_⟩
      rw [hk0, kOf_eq hend.hk]
      omega
    · rw [en] at hX
      have HN := split_Splitter_Next.calls K g b2 512 false _ _ _ _ _ _ _ _ _ w0 wr hst HH.out.1.below hX
      have hle := HH.out.1.le
      have hns := hst.ne_blk HH.out.1.hs (by decide)
      have hnk := hst.ne_blk HH.out.1.hk (by decide)
      have hnl := hst.ne_blk HH.out.1.hl (by decide)
      have hfin := Aside0.mk ej
      clear hX hK en ej hst
      go_wp2_with ((go_at_call 23; refine HN.mono ?_; rintro e w1 ⟨rfl, hI1, hB1, hk1⟩; clear HN; have hH1 := Aside0.mk (held_next HH.out.1 hns hnk hnl hI1 hB1 hk1); clear hI1 hB1 hk1))
      (try go_quiet (fail))
      (try go_wp2)
      go_ret
      exact ⟨rfl, k, b2, held_alloc hH1.out _, HH.out.2.1, HH.out.2.2, fun hr => ⟨by have h := List.drop_eq_nil_iff.1 (hfin.out hr).1; omega, (hfin.out hr).2⟩⟩
end Go.Proofs.Ytndchendimbfnaa.Close
