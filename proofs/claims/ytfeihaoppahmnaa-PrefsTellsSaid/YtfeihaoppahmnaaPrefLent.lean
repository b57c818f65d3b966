/- A list with room behind it in which a mark stands, and whether it stays. Conditions: those that each names. -/
import Derived.Test.YtfeihaoppahmnaaBookAdd
namespace Go.Proofs.Ytfeihaoppahmnaa.Book
open Go.RowKit Go.Proofs.YtfeihaoppahmnaaW.PrintWords Go.Proofs.YtfeihaoppahmnaaW.PrintLast Go.Proofs.YtfeihaoppahmnaaW.PrintMore Go.Proofs.Ytfeihaoppahmnaa.Aid Go.Proofs.Ytfeihaoppahmnaa.PPrefsTells
set_option linter.unusedVariables false
set_option linter.unusedSimpArgs false

def markM : E := ⟨-77, 0⟩
theorem info48' : ∃ i, Try.prog.info? 48 = some i := by
  obtain ⟨i0, hi, _⟩ := Option.map_eq_some_iff.1 info48
  exact ⟨i0, hi⟩
set_option maxRecDepth 100000 in
theorem lent_any (W : World) (A : Option Addr) (cp : Nat) (l : List E) (hr : kE.C W A l.length l) (hc : l.length ≤ cp) (hl : l.length ≤ 100) :
    Calls Try.prog 5 #[.slice A l.length cp] W fun e w' => ∃ Am cm, e = .returned (.slice Am l.length cm) ∧ l.length + 1 ≤ cm ∧ kE.C w' Am (l.length + 1) (l ++ [markM]) ∧ Below W.heap.size W w' := by
  have hl0 := Aside0.mk hl
  have hl1 := Aside0.mk (show bywashbook_copyPrefs.f l = some l from by unfold bywashbook_copyPrefs.f; rw [if_pos (by simp only [List.length_nil]; omega)]; rfl)
  have HC := bywashbook_copyPrefs.calls A cp l l W hr hc hl1.out
  obtain ⟨i0, hi0⟩ := info48'
  clear hl hc hr
  go_enter Try.func5, Try.ntmps5
  go_wp2_with (first
    | (go_at_call 21; refine HC.mono ?_; rintro e w1 ⟨v1, rfl, h1, hb1⟩; clear HC)
    | ((with_reducible refine gate_builtin (b := .append) (xs := #[(.tmp 4), (.tmp 6)]) rfl ?_); at_builtin; refine Kd.R_append kE (w0 := W) W.heap.size rfl (.tmp 4) (.tmp 6) 22 48 _ 16 rfl Try.underlying22 info48 rfl (by decide) (by omega) v1 l markM [.int .i64 (-77), .int .i64 0] (fun _ => True) (fun _ => False) rfl rfl (k48_mkM _ _ _ markM) (fun _ h => h.elim) (fun _ _ => trivial) h1 hb1 hb1.size (by have := hl0.out; omega) ?_; intro v2 w2 h2 hb2 hg hat; obtain ⟨A2, c2, e2⟩ := Kd.R_slice h2; rw [List.length_append, List.length_singleton] at e2; subst e2; have hrd := Aside0.mk (Kd.R_reads' h2); have hcut := cut_to (P := Try.prog) 22 48 .i64 Try.underlying22 hi0 A2 (l.length + 1) c2 (l.length : Int) (by omega) (by omega) (by have := hrd.out.2.1; omega); rw [Int.toNat_natCast] at hcut; clear h1 hb1 hg hat h2))
  go_ret
  exact ⟨A2, c2, rfl, hrd.out.2.1, by have h := hrd.out.2.2; rw [← hrd.out.1] at h; exact h, hb2⟩
theorem head_C {W : World} {Am : Option Addr} {l : List E} (hm : kE.C W Am (l.length + 1) (l ++ [markM])) : kE.C W Am l.length l := by
  have h := hm
  rw [show l.length + 1 = (l ++ [markM]).length from by simp] at h
  have h2 := Kd.C_take h (m := l.length) (by simp)
  rwa [List.take_left] at h2
theorem cut_cap {i0 : TypeInfo} (hi : Try.prog.info? 48 = some i0) (A : Option Addr) (n c : Nat) (j : Int) (h0 : 0 ≤ j) (hj : j ≤ c) :
    ∀ W : World, (Instr.slice 22 (.slice A n c) none (some (.int .i64 j)) none).run Try.prog W = .ok (.slice A j.toNat c) W := by
  intro W
  have hel : Try.prog.elem 22 = 48 := by simp [Program.elem, Try.underlying22]
  have ha : (A.map fun x => x.add 0) = A := by cases A <;> simp [Addr.add]
  rw [run_slice_h W 22 A n c (by rw [hel]; exact Try.underlying22) .i64 j h0 hj, hel]
  simp [sizeOf, typeInfo, hi, sliced, Result.andThen, ha]
set_option maxRecDepth 100000 in
theorem stays_any (W : World) (Am : Option Addr) (cm : Nat) (A : Option Addr) (cp : Nat) (l : List E) (hc0 : l.length + 1 ≤ cm) (hm : kE.C W Am (l.length + 1) (l ++ [markM])) (hr : kE.C W A l.length l) (hc : l.length ≤ cp) (hl : l.length ≤ 100) :
    Calls Try.prog 17 #[.slice Am l.length cm, .slice A l.length cp] W fun e w' => e = .returned (.bool true) ∧ Drawn0 W w' := by
  obtain ⟨K, hK⟩ := same_ev l (by omega)
  have hm1 : kE.C W Am l.length l := by
    have h := hm
    rw [show l.length + 1 = (l ++ [markM]).length from by simp] at h
    have h2 := Kd.C_take h (m := l.length) (by simp)
    rwa [List.take_left] at h2
  have HS := bywashbook_SamePrefs.calls K Am cm l A cp l true W hm1 (by omega) hr hc (hK K (Nat.le_refl _))
  obtain ⟨ad, rfl, q0, q1⟩ := at_T48 hm (l.length : Int) (by omega) (by omega)
  have e1 : rd_T48 (l ++ [markM]) (l.length : Int) = markM := by
    unfold rd_T48
    rw [Int.toNat_natCast, List.getD_eq_getElem?_getD, List.getElem?_append_right (Nat.le_refl _), Nat.sub_self]
    rfl
  rw [e1] at q0 q1
  simp only [Int.toNat_natCast] at q0 q1
  obtain ⟨i0, hi0⟩ := info48'
  have hcut := cut_cap hi0 (some ad) l.length cm ((l.length : Int) + 1) (by omega) (by omega)
  have hw : wrap64 ((l.length : Int) + 1) = (l.length : Int) + 1 := by unfold wrap64; omega
  have ht : ((l.length : Int) + 1).toNat = l.length + 1 := by omega
  rw [ht] at hcut
  have hi1 : decide ((l.length : Int) < ((l.length : Int) + 1)) = true := decide_eq_true (by omega)
  clear hK hm hm1 hr hc hl e1 hc0 hi0 ht
  go_enter Try.func17, Try.ntmps17
  go_wp2_with ((go_at_call 13; refine HS.mono ?_; rintro e w1 ⟨rfl, ⟨q, rfl⟩⟩; clear HS))
  go_ret
  exact ⟨rfl, ⟨q, rfl⟩⟩
end Go.Proofs.Ytfeihaoppahmnaa.Book
