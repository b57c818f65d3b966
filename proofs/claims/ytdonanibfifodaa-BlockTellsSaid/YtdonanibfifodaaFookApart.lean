/- Apart: the book's lists are what they were, and none shares memory. Conditions: those that each names. -/
import Derived.Test.YtdonanibfifodaaFookAdd
import Derived.Test.YtdonanibfifodaaFookNil
namespace Go.Proofs.Ytdonanibfifodaa.Book
open Go.RowKit Go.Proofs.YtdonanibfifodaaW.PrintWords Go.Proofs.YtdonanibfifodaaW.PrintLast Go.Proofs.YtdonanibfifodaaW.PrintMore Go.Proofs.Ytdonanibfifodaa.Aid Go.Proofs.Ytdonanibfifodaa.PBlockTells
set_option linter.unusedVariables false
set_option linter.unusedSimpArgs false

theorem reads_heads {w : World} {base : Nat} {P : Value} {k : Nat} {v : Nat → Value} {c : Nat → List E} (rp : w.ownsRow base 23 1 P k ((List.range k).map v)) (ov : ∀ j, j < k → Own w base (v j) (c j)) (hk : k ≤ 10) :
    ∃ A cap, P = .slice A ((List.range k).map c).length cap ∧ ((List.range k).map c).length ≤ cap ∧ Kd.C kL w A ((List.range k).map c).length ((List.range k).map c) := by
  have hlen : ((List.range k).map c).length = k := by simp
  rw [hlen]
  have hrp := rp
  rcases rp.2 with ⟨rfl, hk0⟩ | ⟨p, cap, cur, rfl, hb, hh, hkc, hcm, hcs, ht⟩
  · subst hk0
    exact ⟨none, 0, rfl, Nat.le_refl _, Kd.C_nil kL w⟩
  · refine ⟨some ⟨p, 0, none⟩, cap, rfl, hkc, hlen, by omega, fun _ => ⟨_, rfl, fun j xs hj => ?_⟩⟩
    have hjk : j < k := by
      have := (List.getElem?_eq_some_iff.1 hj).1
      rwa [hlen] at this
    have hxs : c j = xs := by
      rw [List.getElem?_map, List.getElem?_range hjk] at hj
      exact Option.some.inj hj
    obtain ⟨ad, cp', e, hcell⟩ := heads hrp j hjk
    injection e with e _ _
    injection e with e
    obtain ⟨A1, c1, ev, hc1, hr1⟩ := ((ov j hjk).reads).out
    rw [hxs] at ev hc1 hr1
    refine ⟨[v j], rfl, ⟨A1, c1, by rw [ev], hc1, hr1⟩, fun i q hq => ?_⟩
    cases i with
    | zero =>
      have : v j = q := by simpa using hq
      rw [← this, e]
      show w.cell? (ad.add (j * 1 + 0)) = some (v j)
      rw [Nat.mul_one, Nat.add_zero]
      exact hcell
    | succ i => simp at hq
theorem rd_map (f : Nat → List E) (k j : Nat) (h : j < k) : rd_L8 ((List.range k).map f) (j : Int) = f j := by
  unfold rd_L8
  rw [Int.toNat_natCast, List.getD_eq_getElem?_getD, List.getElem?_map, List.getElem?_range h]
  rfl
theorem marked_map (f : Nat → Nat) (k : Nat) (hk : k ≤ 10) (hf : ∀ j, j < k → f j ≤ 1000) : Ev (fun r => bywashbook_markedFrames.f r ((List.range k).map fun (j : Nat) => marks (j : Int) 0 (f j))) true := by
  refine marked_ev _ (by simp; omega) (fun j hj => ?_)
  have hjk : j < k := by simpa using hj
  rw [rd_map (fun (j : Nat) => marks (j : Int) 0 (f j)) k j hjk, marks_length]
  exact ⟨rfl, by have := hf j hjk; omega⟩
theorem nil_cells {w : World} {g : Nat} {P Q : Value} (h : w.heap[g]? = some (.cells (cellsB P Q) 33 (0, 0))) :
    w.cell? ⟨g, 0, none⟩ = some (.slice none 0 0) ∧ w.cell? ⟨g, 2, none⟩ = some (.slice none 0 0) ∧ w.cell? ⟨g, 4, none⟩ = some (.slice none 0 0) ∧ w.cell? ⟨g, 8, none⟩ = some (.slice none 0 0) :=
  ⟨(blk_cell h 0).trans rfl, (blk_cell h 2).trans rfl, (blk_cell h 4).trans rfl, (blk_cell h 8).trans rfl⟩
theorem gr_start {w0 w : World} {g : Nat} {P Q : Value} {k : Nat} {v : Nat → Value} {n : Nat → Nat} (h : Bp w0 w g P Q k v (fun t => marks (t : Int) 0 (n t))) : Gr w0 w g P Q k v n (okB k v 0) (.slice none 0 0) [] :=
  ⟨h.blk, h.rp, h.ov, h.below, Kd.R_nil _ _ _ _ _, fun b hb => by cases hb⟩
set_option maxHeartbeats 1000000 in
set_option maxRecDepth 100000 in
theorem apart_any (w0 w : World) (g : Nat) (P Q : Value) (k : Nat) (v u : Nat → Value) (c : Nat → List E) (H : Bk w0 w g P Q k v u c) (hk : k ≤ 10) : Calls Try.prog 18 #[.pointer (some ⟨g, 0, none⟩)] w fun e w' => e = .returned (.bool true) ∧ Below w0.heap.size w0 w' := by
  have H0 := Aside0.mk H
  have hk0 := Aside0.mk hk
  have hl0 := Aside0.mk H.bp.len
  obtain ⟨n0, n2, n4, n6⟩ := nil_cells H.bp.blk
  have HF := Aside0.mk (show Fx w0 g k v (fun t => (c t).length) from ⟨H.bp.av, H.bp.ge, H.bp.len, hk⟩)
  obtain ⟨K1, hK1⟩ := marked_map (fun t => (c t).length + 72) k hk (fun j hj => by have := H.bp.len j hj; show (c j).length + 72 ≤ 1000; omega)
  obtain ⟨K2, hK2⟩ := marked_map (fun t => (c t).length) k hk (fun j hj => by have := H.bp.len j hj; show (c j).length ≤ 1000; omega)
  have hK1 := Aside0.mk (hK1 K1 (Nat.le_refl _))
  have hK2 := Aside0.mk (hK2 K2 (Nat.le_refl _))
  clear H hk
  go_enter Try.func18, Try.ntmps18
  go_wp2_with (first
    | (go_at_call 23; refine (stillInts_nil _ g n0).mono ?_; rintro e w1 ⟨rfl, rfl⟩)
    | (go_at_call 24; refine (stillTexts_nil _ g n2).mono ?_; rintro e w1 ⟨rfl, rfl⟩)
    | (go_at_call 25; refine (stillFields_nil _ g n4).mono ?_; rintro e w1 ⟨rfl, rfl⟩)
    | (go_at_call 27; refine (stillPrefs_nil _ g n6).mono ?_; rintro e w1 ⟨rfl, rfl⟩)
    | (go_at_call 26; refine (still_any w0 _ g P Q k v u c H0.out hk0.out).mono ?_; rintro e w2 ⟨rfl, ⟨q, rfl⟩⟩; have H2 := Aside0.mk (H0.out.bp.drewN q); clear H0; clear n0 n2 n4 n6; obtain ⟨n0, n2, n4, n6⟩ := nil_cells H2.out.blk)
    | (go_at_call 28; refine (putInts_nil _ g n0).mono ?_; rintro e w1 ⟨rfl, rfl⟩)
    | (go_at_call 29; refine (putTexts_nil _ g n2).mono ?_; rintro e w1 ⟨rfl, rfl⟩)
    | (go_at_call 30; refine (putFields_nil _ g n4).mono ?_; rintro e w1 ⟨rfl, rfl⟩)
    | (go_at_call 32; refine (putPrefs_nil _ g n6).mono ?_; rintro e w1 ⟨rfl, rfl⟩)
    | (go_at_call 31; refine (put_any w0 _ g P Q k v c H2.out hk0.out).mono ?_; rintro e w3 ⟨rfl, hp⟩; have H3 := Aside0.mk (gr_start hp); clear H2 hp n0 n2 n4 n6; obtain ⟨n0, n2, n4, n6⟩ := nil_cells H3.out.blk)
    | (go_at_call 33; refine (growInts_nil _ g n0).mono ?_; rintro e w1 ⟨rfl, rfl⟩)
    | (go_at_call 34; refine (growTexts_nil _ g n2).mono ?_; rintro e w1 ⟨rfl, rfl⟩)
    | (go_at_call 35; refine (growFields_nil _ g n4).mono ?_; rintro e w1 ⟨rfl, rfl⟩)
    | (go_at_call 37; refine (growPrefs_nil _ g n6).mono ?_; rintro e w1 ⟨rfl, rfl⟩)
    | (go_at_call 36; refine (grow_any w0 _ g P Q k v _ HF.out H3.out).mono ?_; rintro e w4 ⟨o, rfl, h4⟩; clear H3 n0 n2 n4 n6; obtain ⟨n0, n2, n4, n6⟩ := nil_cells h4.blk; have n8 := gr_cell h4; obtain ⟨Ao, co, rfl, hco, hCo⟩ := Kd.R_reads h4.ro; obtain ⟨AP, cp, rfl, hcp, hCP⟩ := reads_heads h4.rp h4.ov hk0.out; have HCP := Aside0.mk hCP; have HCo := Aside0.mk hCo; have hB4 := Aside0.mk h4.below; clear h4 hCo hCP)
    | (go_at_call 38; refine (markedInts_nil _).mono ?_; rintro e w1 ⟨rfl, rfl⟩)
    | (go_at_call 39; refine (markedTexts_nil _).mono ?_; rintro e w1 ⟨rfl, rfl⟩)
    | (go_at_call 40; refine (markedFields_nil _).mono ?_; rintro e w1 ⟨rfl, rfl⟩)
    | (go_at_call 42; refine (markedPrefs_nil _).mono ?_; rintro e w1 ⟨rfl, rfl⟩)
    | (go_at_call 41; refine (bywashbook_markedFrames.calls K1 Ao co _ true _ HCo.out hco hK1.out).mono ?_; rintro e w5 ⟨rfl, hb5⟩; clear HCo hK1; have n8 := (hb5.cell (cell_lt n8)).trans n8; have n6 := (hb5.cell (cell_lt n6)).trans n6; have HCP := Aside0.mk (Kd.C_below HCP.out hb5); have hB5 := below_step2 hB4.out hb5; clear hb5)
    | (go_at_call 41; have HM2 := bywashbook_markedFrames.calls K2 AP cp _ true _ HCP.out hcp hK2.out; rw [List.length_map, List.length_range] at HM2; refine HM2.mono ?_; rintro e w6 ⟨rfl, hb6⟩; have hB6 := below_step2 hB5 hb6; have n6 := (hb6.cell (cell_lt n6)).trans n6))
  go_ret
  exact ⟨rfl, hB6⟩
end Go.Proofs.Ytdonanibfifodaa.Book
