/- put: every list of the book is marked. Conditions: those that each names. -/
import Derived.Test.YtdonanibfifodaaFookKept
namespace Go.Proofs.Ytdonanibfifodaa.Book
open Go.RowKit Go.Proofs.YtdonanibfifodaaW.PrintWords Go.Proofs.YtdonanibfifodaaW.PrintLast Go.Proofs.YtdonanibfifodaaW.PrintMore Go.Proofs.Ytdonanibfifodaa.Aid Go.Proofs.Ytdonanibfifodaa.PBlockTells
set_option linter.unusedVariables false
set_option linter.unusedSimpArgs false

/-- The lists ahead of i are marked, j marks are in list i. -/
def cput (c : Nat → List E) (i j : Nat) : Nat → List E := fun t => if t < i then marks (t : Int) 0 (c t).length else if t = i then marks (i : Int) 0 j ++ (c i).drop j else c t
theorem cput_zero (c : Nat → List E) : cput c 0 0 = c := by
  funext t
  unfold cput
  by_cases h : t = 0
  · subst h; simp [marks]
  · simp [h]
theorem cput_full (c : Nat → List E) (i : Nat) : cput c i (c i).length = cput c (i + 1) 0 := by
  funext t
  unfold cput
  by_cases h : t < i
  · rw [if_pos h, if_pos (by omega)]
  · rw [if_neg h]
    by_cases h2 : t = i
    · subst h2; rw [if_pos rfl, if_pos (by omega), List.drop_length, List.append_nil]
    · rw [if_neg h2, if_neg (by omega)]
      by_cases h3 : t = i + 1
      · subst h3; rw [if_pos rfl]; simp [marks]
      · rw [if_neg h3]
theorem cput_at (c : Nat → List E) (i j : Nat) : cput c i j i = marks (i : Int) 0 j ++ (c i).drop j := by
  unfold cput
  rw [if_neg (by omega), if_pos rfl]
theorem cput_ne (c : Nat → List E) {i t : Nat} (h : t ≠ i) (j j' : Nat) : cput c i j t = cput c i j' t := by
  unfold cput
  rw [if_neg h, if_neg h]
theorem cput_len (c : Nat → List E) (i j t : Nat) (h : j ≤ (c i).length) : (cput c i j t).length = (c t).length := by
  unfold cput
  split
  · exact marks_length _ _ _
  · split
    · rename_i h2; subst h2
      rw [List.length_append, marks_length, List.length_drop]; omega
    · rfl
theorem cput_set (c : Nat → List E) (i j : Nat) (h : j < (c i).length) : (cput c i j i).set j (mkE (i : Int) (j : Int)) = cput c i (j + 1) i := by
  rw [cput_at, cput_at, List.set_append_right _ _ (by rw [marks_length]; exact Nat.le_refl _), marks_length, Nat.sub_self]
  obtain ⟨x, xs, e⟩ : ∃ x xs, (c i).drop j = x :: xs := by
    cases hd : (c i).drop j with
    | nil => rw [List.drop_eq_nil_iff] at hd; omega
    | cons x xs => exact ⟨x, xs, rfl⟩
  have e2 : (c i).drop (j + 1) = xs := by rw [← List.drop_drop, e]; rfl
  rw [e, e2, List.set_cons_zero, ← marks_snoc, Nat.zero_add, List.append_assoc]
  rfl
theorem Own.store {w : World} {base b n cap : Nat} {xs : List E} (h : Own w base (.slice (some ⟨b, 0, none⟩) n cap) xs) (j : Nat) (hj : j < n) (x : E) :
    Own ((((w.setCell ⟨b, j * 4, none⟩ (.int .i64 x.f0)).setCell ⟨b, j * 4 + 1, none⟩ (.int .i64 x.f1)).setCell ⟨b, j * 4 + 2, none⟩ (.int .i64 x.f2)).setCell ⟨b, j * 4 + 3, none⟩ (.string x.f3)) base (.slice (some ⟨b, 0, none⟩) n cap) (xs.set j x) ∧ w.grownBy ((((w.setCell ⟨b, j * 4, none⟩ (.int .i64 x.f0)).setCell ⟨b, j * 4 + 1, none⟩ (.int .i64 x.f1)).setCell ⟨b, j * 4 + 2, none⟩ (.int .i64 x.f2)).setCell ⟨b, j * 4 + 3, none⟩ (.string x.f3)) (some b) := by
  obtain ⟨c, hl, hM, hc, hz⟩ := Kd.R_elem h zE (j : Int) (by omega) (by omega)
  obtain ⟨a0, a1⟩ := Kd.R_seg (okp := fun _ => False) h (j : Int) (by omega) (by omega) (seg := [.int .i64 x.f0, .int .i64 x.f1, .int .i64 x.f2, .string x.f3]) (j := 0) hl hc (Nat.le_refl 4) (x' := x) (by
    rw [List.take_zero, List.nil_append, Nat.zero_add, List.drop_of_length_le (by rw [hl]; exact Nat.le_refl 4), List.append_nil]
    exact k39_mkM _ _ _ _) (fun _ hk => hk.elim)
  rw [Int.toNat_natCast] at a0 a1
  exact ⟨a0, a1⟩
/-- What a store into row i finds and leaves. -/
theorem Own.place {w : World} {base n cap : Nat} {A : Option Addr} {xs : List E} (h : Own w base (.slice A n cap) xs) (j : Nat) (hj : j < n) : ∃ ad, A = some ad ∧ ad = ⟨ad.block, 0, none⟩ ∧
    (∃ o, w.cell? (ad.add (j * 4)) = some o) ∧ (∃ o, w.cell? ⟨(ad.add (j * 4)).block, (ad.add (j * 4)).off + 1, none⟩ = some o) ∧ (∃ o, w.cell? ⟨(ad.add (j * 4)).block, (ad.add (j * 4)).off + 2, none⟩ = some o) ∧ (∃ o, w.cell? ⟨(ad.add (j * 4)).block, (ad.add (j * 4)).off + 3, none⟩ = some o) ∧ w.frozen? (ad.add (j * 4)) = false ∧ w.frozen? ⟨(ad.add (j * 4)).block, (ad.add (j * 4)).off + 1, none⟩ = false ∧ w.frozen? ⟨(ad.add (j * 4)).block, (ad.add (j * 4)).off + 2, none⟩ = false ∧ w.frozen? ⟨(ad.add (j * 4)).block, (ad.add (j * 4)).off + 3, none⟩ = false := by
  have h0 := h
  obtain ⟨_, inner, ho, _⟩ := h
  rcases ho.2 with ⟨hn, hk⟩ | ⟨b, cap', cur, hn, _⟩
  · injection hn with _ hn _
    omega
  · injection hn with ha hn hc
    subst ha
    obtain ⟨c, hl, hM, hc, hz⟩ := Kd.R_elem h0 zE (j : Int) (by omega) (by omega)
    rw [Int.toNat_natCast] at hc hz
    have g0 := hc 0 _ (List.getElem?_eq_getElem (show 0 < c.length by rw [hl]; decide))
    have g1 := hc 1 _ (List.getElem?_eq_getElem (show 1 < c.length by rw [hl]; decide))
    have g2 := hc 2 _ (List.getElem?_eq_getElem (show 2 < c.length by rw [hl]; decide))
    have g3 := hc 3 _ (List.getElem?_eq_getElem (show 3 < c.length by rw [hl]; decide))
    refine ⟨⟨b, 0, none⟩, rfl, rfl, ⟨_, by rw [add_plain]; exact g0⟩, ⟨_, by rw [add_plain]; exact g1⟩, ⟨_, by rw [add_plain]; exact g2⟩, ⟨_, by rw [add_plain]; exact g3⟩, by rw [add_plain]; exact hz 0, by rw [add_plain]; exact hz 1, by rw [add_plain]; exact hz 2, by rw [add_plain]; exact hz 3⟩
theorem Own.far_blk {w : World} {base : Nat} {v : Value} {xs : List E} {b g : Nat} {t : TypeId} {cells : Array Value} (h : Own w base v xs) (hb : v.ownBlock = some b) (hg : w.heap[g]? = some (.cells cells t (0, 0))) (ht : t ≠ 39) : g ≠ b := by
  rintro rfl
  obtain ⟨cells', hc⟩ := Kd.R_typed h g hb
  have := hc.symm.trans hg
  injection this with this
  injection this with _ this
  exact ht this.symm
theorem cell_next {w : World} {ad : Addr} {m s s' : Nat} {o : Value} (had : ad = ⟨ad.block, 0, none⟩) (hs : s' < s) (h : w.cell? ⟨(ad.add m).block, (ad.add m).off + s, none⟩ = some o) (u : Value) : (w.setCell ⟨(ad.add m).block, (ad.add m).off + s', none⟩ u).cell? ⟨(ad.add m).block, (ad.add m).off + s, none⟩ = some o := by
  generalize ad.block = b at had
  subst had
  rw [add_plain] at h ⊢
  exact (World.cell?_setCells_out b [u] (m + s') w ⟨b, m + s, none⟩ (fun _ _ => .inr (by show m + s' + 1 ≤ m + s; omega))).trans h
theorem cell_next0 {w : World} {ad : Addr} {m s : Nat} {o : Value} (had : ad = ⟨ad.block, 0, none⟩) (hs : 0 < s) (h : w.cell? ⟨(ad.add m).block, (ad.add m).off + s, none⟩ = some o) (u : Value) : (w.setCell (ad.add m) u).cell? ⟨(ad.add m).block, (ad.add m).off + s, none⟩ = some o := by
  generalize ad.block = b at had
  subst had
  rw [add_plain] at h ⊢
  exact (World.cell?_setCells_out b [u] m w ⟨b, m + s, none⟩ (fun _ _ => .inr (by show m + 1 ≤ m + s; omega))).trans h
theorem cell_far2 {w : World} {a p : Addr} (hne : a.block ≠ p.block) (o1 o2 o3 : Nat) (x y z u : Value) : ((((w.setCell p x).setCell ⟨p.block, o1, none⟩ y).setCell ⟨p.block, o2, none⟩ z).setCell ⟨p.block, o3, none⟩ u).cell? a = w.cell? a := by
  have h1 := Below.heap_setCell w p x a.block hne
  have h2 := Below.heap_setCell (w.setCell p x) ⟨p.block, o1, none⟩ y a.block hne
  have h3 := Below.heap_setCell ((w.setCell p x).setCell ⟨p.block, o1, none⟩ y) ⟨p.block, o2, none⟩ z a.block hne
  have h4 := Below.heap_setCell (((w.setCell p x).setCell ⟨p.block, o1, none⟩ y).setCell ⟨p.block, o2, none⟩ z) ⟨p.block, o3, none⟩ u a.block hne
  unfold World.cell?
  rw [h4, h3, h2, h1]
theorem Bp.store {w0 w : World} {g : Nat} {P Q : Value} {k : Nat} {v : Nat → Value} {c : Nat → List E} {i j : Nat} (h : Bp w0 w g P Q k v (cput c i j)) (hi : i < k) {ad : Addr} {n cap : Nat} (hv : v i = .slice (some ad) n cap) (had : ad = ⟨ad.block, 0, none⟩) (hj : j < (c i).length) :
    Bp w0 ((((w.setCell (ad.add (j * 4)) (.int .i64 (mkE (i : Int) (j : Int)).f0)).setCell ⟨(ad.add (j * 4)).block, (ad.add (j * 4)).off + 1, none⟩ (.int .i64 (mkE (i : Int) (j : Int)).f1)).setCell ⟨(ad.add (j * 4)).block, (ad.add (j * 4)).off + 2, none⟩ (.int .i64 (mkE (i : Int) (j : Int)).f2)).setCell ⟨(ad.add (j * 4)).block, (ad.add (j * 4)).off + 3, none⟩ (.string (mkE (i : Int) (j : Int)).f3)) g P Q k v (cput c i (j + 1)) := by
  generalize hb : ad.block = b at had
  subst had
  rw [add_plain]
  have ho := h.ov i hi
  rw [hv] at ho
  have hn : n = (cput c i j i).length := (Kd.R_reads' ho).1
  rw [cput_len c i j i (by omega)] at hn
  obtain ⟨s1, s2⟩ := ho.store j (by omega) (mkE (i : Int) (j : Int))
  rw [cput_set c i j hj] at s1
  have hbk : (v i).ownBlock = some b := by rw [hv]; rfl
  have hge : w0.heap.size ≤ b := ho.ge rfl
  have hgb : g ≠ b := by
    rintro rfl
    obtain ⟨cells, hc⟩ := Kd.R_typed ho g rfl
    have := hc.symm.trans h.blk
    injection this with this
    injection this with _ this
    exact absurd this (by decide)
  refine ⟨(s2.block g (blk_lt h.blk) (by simpa using hgb)).trans h.blk, own_other h.rp s2 (by
      rcases hp : P.ownBlock with _ | p
      · exact .inl rfl
      · right
        have := own_type_ne h.rp ho.2.choose_spec.1 (by decide)
        rw [hp] at this
        simpa [Value.ownBlock] using this), fun t ht => ?_, h.av, h.ge, h.below.grown s2 h.below.size (by rintro q hq; injection hq with hq; omega), fun t ht => by rw [cput_len c i (j + 1) t hj]; have := h.len t ht; rwa [cput_len c i j t (by omega)] at this⟩
  by_cases hti : t = i
  · subst hti
    rw [hv]
    exact s1
  · rw [cput_ne c hti (j + 1) j]
    exact (h.ov t ht).grown s2 (fun q hq e => h.av i t hi ht (fun e => hti e.symm) b hbk (hq.trans e))

theorem Bp.congr {w0 w : World} {g : Nat} {P Q : Value} {k : Nat} {v : Nat → Value} {c c' : Nat → List E} (h : Bp w0 w g P Q k v c) (hc : ∀ t, t < k → c t = c' t) : Bp w0 w g P Q k v c' :=
  ⟨h.blk, h.rp, fun t ht => hc t ht ▸ h.ov t ht, h.av, h.ge, h.below, fun t ht => hc t ht ▸ h.len t ht⟩
theorem below_step2 {w0 w w1 : World} (h : Below w0.heap.size w0 w) (hb : Below w.heap.size w w1) : Below w0.heap.size w0 w1 := below_step h hb
theorem Bp.under {w0 w w1 : World} {g : Nat} {P Q : Value} {k : Nat} {v : Nat → Value} {c : Nat → List E} (h : Bp w0 w g P Q k v c) (hb : Below w.heap.size w w1) : Bp w0 w1 g P Q k v c :=
  ⟨(hb.block g (blk_lt h.blk)).trans h.blk, pw_own_below h.rp hb, fun t ht => (h.ov t ht).below hb, h.av, h.ge, below_step2 h.below hb, h.len⟩
theorem rd_marks (i : Int) (n j : Nat) (h : j < n) : rd_T39 (marks i 0 n) (j : Int) = mkE i (j : Int) := by
  unfold rd_T39 marks
  rw [Int.toNat_natCast, List.getD_eq_getElem?_getD, List.getElem?_map, List.getElem?_range' (by omega)]
  simp
/-- What a round of the inner loop knows. -/
structure Mid (w0 w : World) (g : Nat) (P Q : Value) (k : Nat) (v : Nat → Value) (c : Nat → List E) (i j : Nat) (m : Value) : Prop where
  le : j ≤ (c i).length
  bp : Bp w0 w g P Q k v (cput c i j)
  om : Own w w0.heap.size m (marks (i : Int) 0 (c i).length)
  far : ∀ b, m.ownBlock = some b → (v i).ownBlock ≠ some b
def Tr31_7 : Bool × List (List Nat × List Nat) := (true, [([], []), ([0], [0]), ([1], [1]), ([2], [2]), ([], []), ([3, 4], [3, 4]), ([5], [5]), ([], []), ([], []), ([], []), ([8, 9], [8, 9]), ([10], [10]), ([6, 7, 0, 1, 2, 3, 4, 5, 6, 7, 8, 9, 10, 11], [6, 7]), ([12, 11, 0, 1, 2, 3, 4, 5, 6, 7, 8, 9, 10, 11], [11, 12])])
def Br31_7 : List Nat := [0, 1, 3, 7, 0, 31, 63, 0, 0, 0, 768, 1792, 4095, 8191]
theorem tabr31_7 : rtab .any (opsOf Try.f31 7) = Tr31_7 := by kernel_rfl
theorem bitsr31_7 : waitsOk Tr31_7.2 Br31_7 = true := by kernel_rfl

set_option maxHeartbeats 1000000 in
set_option maxRecDepth 100000 in
theorem put_any (w0 w : World) (g : Nat) (P Q : Value) (k : Nat) (v : Nat → Value) (c : Nat → List E) (H : Bp w0 w g P Q k v c) (hk : k ≤ 10) : Calls Try.prog 31 #[.pointer (some ⟨g, 0, none⟩)] w fun e w' => e = .returned (.tuple #[]) ∧ Bp w0 w' g P Q k v (fun t => marks (t : Int) 0 (c t).length) := by
  have H0 := Aside0.mk H
  have hk0 := Aside0.mk hk
  clear H hk
  obtain ⟨AP, capP, rfl⟩ := own_slice H0.out.rp
  go_enter Try.func31, Try.ntmps31
  go_wp2
  go_loopw [2] (fun t wl => ∃ (i : Nat), t = .int .i64 (i : Int) ∧ Aside0 (i ≤ k ∧ Bp w0 wl g (.slice AP k capP) Q k v (cput c i 0))) (fun t _ => k - (intOf t).toNat)
  case atStart => exact ⟨0, rfl, ⟨⟨Nat.zero_le _, by rw [cput_zero]; exact H0.out⟩⟩⟩
  case round =>
    obtain ⟨i, rfl, HR⟩ := hrel
    have e8 := HR.out.2.cellP
    by_cases hik : i < k
    · have hi1 : decide ((i : Int) < (k : Int)) = true := decide_eq_true (by omega)
      have hi2 : decide ((i : Int) < 0) = false := decide_eq_false (by omega)
      obtain ⟨adP, cp', eP, hP⟩ := heads HR.out.2.rp i hik
      injection eP with eA _ eC
      subst eA; subst eC
      obtain ⟨A1, c1, ev, hc1, hr1⟩ := ((HR.out.2.ov i hik).reads).out
      rw [cput_len c i 0 i (Nat.zero_le _)] at ev
      rw [ev] at hP
      have hlen := HR.out.2.len i hik
      rw [cput_len c i 0 i (Nat.zero_le _)] at hlen
      have hlen := Aside0.mk hlen
      obtain ⟨K, hK⟩ := mark_ev (i : Int) 0 (c i).length (by have := hlen.out; omega)
      have HM := fun (W : World) => bywashbook_markFrames.calls K (i : Int) 0 ((c i).length : Int) _ W (hK K (Nat.le_refl _))
      have hwrap := Aside0.mk (show wrap64 ((i : Int) + 1) = ((i + 1 : Nat) : Int) from by unfold wrap64; have := hk0.out; omega)
      have hik := Aside0.mk hik
      have ev := Aside0.mk ev
      clear hK hc1 hr1
      go_wp2_with ((go_at_call 55; refine (HM _).mono ?_; rintro e w1 ⟨m, rfl, hm, hb⟩; clear HM; obtain ⟨Am, cm, rfl⟩ := Kd.R_slice hm; have HMid := Aside0.mk (show Mid w0 w1 g (.slice (some adP) k capP) Q k v c i 0 (.slice Am (marks (i : Int) 0 (c i).length).length cm) from ⟨Nat.zero_le _, HR.out.2.under hb, Own.of hm HR.out.2.below.size, fun b hb1 hb2 => by have h1 := (Kd.R_base hm b hb1); have h2 := (HR.out.2.ov i hik.out).lt hb2; omega⟩); clear hm hb))
      rw [marks_length] at *
      go_loopw [4] (fun t wl => ∃ (j : Nat), t = .int .i64 (j : Int) ∧ Aside0 (Mid w0 wl g (.slice (some adP) k capP) Q k v c i j (.slice Am (c i).length cm))) (fun t _ => (c i).length - (intOf t).toNat)
      case atStart => exact ⟨0, rfl, HMid⟩
      case round =>
        obtain ⟨j, rfl, HJ⟩ := hrel
        clear e8 hP HMid
        by_cases hj : j < (c i).length
        · have hj1 : decide ((j : Int) < ((c i).length : Int)) = true := decide_eq_true (by omega)
          have hj2 : decide ((j : Int) < 0) = false := decide_eq_false (by omega)
          have e8 := HJ.out.bp.cellP
          obtain ⟨adP', cp', eP, hP⟩ := heads HJ.out.bp.rp i hik.out
          injection eP with eA _ eC
          injection eA with eA
          subst eA; subst eC
          have ho := HJ.out.bp.ov i hik.out
          rw [ev.out] at hP ho
          obtain ⟨adV, eA, hadV, ⟨o0, q0⟩, ⟨o1, q1⟩, ⟨o2, q2⟩, ⟨o3, q3⟩, z0, z1, z2, z3⟩ := ho.place j hj
          subst eA
          obtain ⟨adM, eM, m0, m1, m2, m3⟩ := at_T39 (Kd.R_reads' HJ.out.om).2.2 (j : Int) (by omega) (by rw [marks_length]; omega)
          subst eM
          rw [rd_marks _ _ _ hj] at m0 m1 m2 m3
          simp only [Int.toNat_natCast] at m0 m1 m2 m3
          have hwj := Aside0.mk (show wrap64 ((j : Int) + 1) = ((j + 1 : Nat) : Int) from by unfold wrap64; have := hlen.out; omega)
          have hj := Aside0.mk hj
          replace hadV := Aside0.mk hadV
          have HD := Aside0.mk (show Mid w0 wr.drew g (.slice (some adP) k capP) Q k v c i j (.slice (some adM) (c i).length cm) from ⟨HJ.out.le, HJ.out.bp.drewN 1, own_drewN HJ.out.om 1, HJ.out.far⟩)
          have hgV := Aside0.mk (ho.far_blk rfl HJ.out.bp.blk (by decide))
          have hPV := Aside0.mk (show adP.block ≠ adV.block from fun e => by have := own_type_ne HJ.out.bp.rp ho.2.choose_spec.1 (by decide); simp [Value.ownBlock, e] at this)
          have hMV := Aside0.mk (show adM.block ≠ adV.block from fun e => HJ.out.far adM.block rfl (by rw [ev.out]; simp [Value.ownBlock, e]))
          have HQ : Aside0 (wr.drew.cell? (adV.add (j * 4)) = some o0 ∧ wr.drew.cell? ⟨(adV.add (j * 4)).block, (adV.add (j * 4)).off + 1, none⟩ = some o1 ∧ wr.drew.cell? ⟨(adV.add (j * 4)).block, (adV.add (j * 4)).off + 2, none⟩ = some o2 ∧ wr.drew.cell? ⟨(adV.add (j * 4)).block, (adV.add (j * 4)).off + 3, none⟩ = some o3 ∧ wr.drew.frozen? (adV.add (j * 4)) = false ∧ wr.drew.frozen? ⟨(adV.add (j * 4)).block, (adV.add (j * 4)).off + 1, none⟩ = false ∧ wr.drew.frozen? ⟨(adV.add (j * 4)).block, (adV.add (j * 4)).off + 2, none⟩ = false ∧ wr.drew.frozen? ⟨(adV.add (j * 4)).block, (adV.add (j * 4)).off + 3, none⟩ = false) := ⟨⟨q0, q1, q2, q3, z0, z1, z2, z3⟩⟩
          clear ho
          go_wp2
          refine start_ (n := 14) (S := (fun w' => w'.cell? ⟨g, 6, none⟩ = some (.slice (some adP) k capP) ∧ w'.cell? (adP.add i) = some (.slice (some adV) (c i).length c1) ∧ w'.cell? (adM.add (j * 4)) = some (.int .i64 (mkE (i : Int) (j : Int)).f0) ∧ w'.cell? ⟨(adM.add (j * 4)).block, (adM.add (j * 4)).off + 1, none⟩ = some (.int .i64 (mkE (i : Int) (j : Int)).f1) ∧ w'.cell? ⟨(adM.add (j * 4)).block, (adM.add (j * 4)).off + 2, none⟩ = some (.int .i64 (mkE (i : Int) (j : Int)).f2) ∧ w'.cell? ⟨(adM.add (j * 4)).block, (adM.add (j * 4)).off + 3, none⟩ = some (.string (mkE (i : Int) (j : Int)).f3))) (ds := []) #[false, false, false, false, false, false, false, false, false, false, false, false, false, false] (by kernel_rfl) rfl rfl (⟨e8, hP, m0, m1, m2, m3⟩) (fun hHeld => ?_)
          refine with_tabW tabr31_7 bitsr31_7 (fun HT_ HW_ => ?_)
          clear q0 q1 q2 q3 z0 z1 z2 z3
          generalize wr.drew = w2 at HD HQ hHeld ⊢
          obtain ⟨q0, q1, q2, q3, z0, z1, z2, z3⟩ := HQ.out
          have p1 := cell_next0 hadV.out (by decide) q1 (.int .i64 (mkE (i : Int) (j : Int)).f0)
          have p2 := cell_next hadV.out (by decide : 1 < 2) (cell_next0 hadV.out (by decide) q2 (.int .i64 (mkE (i : Int) (j : Int)).f0)) (.int .i64 (mkE (i : Int) (j : Int)).f1)
          have p3 := cell_next hadV.out (by decide : 2 < 3) (cell_next hadV.out (by decide : 1 < 3) (cell_next0 hadV.out (by decide) q3 (.int .i64 (mkE (i : Int) (j : Int)).f0)) (.int .i64 (mkE (i : Int) (j : Int)).f1)) (.int .i64 (mkE (i : Int) (j : Int)).f2)
          refine pure_ (i := 0) (N := some 30) (v := ?_) (a' := ?_) #[true, false, false, false, false, false, false, false, false, false, false, false, false, false] rfl rfl (any_of HT_.out (by kernel_rfl)) (fun _ _ _ h => h) (Or.inl ⟨by rfl, ?_⟩) ?_ ?_
          rotate_left
          · intro w'
            go_simp
            with_reducible rfl
          rotate_left
          · simp only [Act.put, List.setIfInBounds_toArray, List.set_cons_zero, List.set_cons_succ, i64_w, i32_w]
            rfl
          refine pure_ (i := 1) (N := some 31) (v := ?_) (a' := ?_) #[true, true, false, false, false, false, false, false, false, false, false, false, false, false] rfl rfl (any_of HT_.out (by kernel_rfl)) (fun _ _ _ h => h) (Or.inl ⟨by rfl, ?_⟩) ?_ ?_
          rotate_left
          · intro w'
            go_simp
            with_reducible rfl
          rotate_left
          · simp only [Act.put, List.setIfInBounds_toArray, List.set_cons_zero, List.set_cons_succ, i64_w, i32_w]
            rfl
          refine pure_ (i := 2) (N := some 32) (v := ?_) (a' := ?_) #[true, true, true, false, false, false, false, false, false, false, false, false, false, false] rfl rfl (any_of HT_.out (by kernel_rfl)) (fun _ _ _ h => h) (Or.inl ⟨by rfl, ?_⟩) ?_ ?_
          rotate_left
          · intro w'
            go_simp
            with_reducible rfl
          rotate_left
          · simp only [Act.put, List.setIfInBounds_toArray, List.set_cons_zero, List.set_cons_succ, i64_w, i32_w]
            rfl
          refine pure_ (i := 4) (N := some 34) (v := ?_) (a' := ?_) #[true, true, true, false, true, false, false, false, false, false, false, false, false, false] rfl rfl (any_of HT_.out (by kernel_rfl)) (fun _ _ _ h => h) (Or.inl ⟨by rfl, ?_⟩) ?_ ?_
          rotate_left
          · intro w'
            go_simp
            with_reducible rfl
          rotate_left
          · simp only [Act.put, List.setIfInBounds_toArray, List.set_cons_zero, List.set_cons_succ, i64_w, i32_w]
            rfl
          refine pure_ (i := 7) (N := some 37) (v := ?_) (a' := ?_) #[true, true, true, false, true, false, false, true, false, false, false, false, false, false] rfl rfl (any_of HT_.out (by kernel_rfl)) (fun _ _ _ h => h) (Or.inl ⟨by rfl, ?_⟩) ?_ ?_
          rotate_left
          · intro w'
            go_simp
            with_reducible rfl
          rotate_left
          · simp only [Act.put, List.setIfInBounds_toArray, List.set_cons_zero, List.set_cons_succ, i64_w, i32_w]
            rfl
          refine pure_ (i := 8) (N := some 38) (v := ?_) (a' := ?_) #[true, true, true, false, true, false, false, true, true, false, false, false, false, false] rfl rfl (any_of HT_.out (by kernel_rfl)) (fun _ _ _ h => h) (Or.inl ⟨by rfl, ?_⟩) ?_ ?_
          rotate_left
          · intro w'
            go_simp
            with_reducible rfl
          rotate_left
          · simp only [Act.put, List.setIfInBounds_toArray, List.set_cons_zero, List.set_cons_succ, i64_w, i32_w]
            rfl
          refine pure_ (i := 9) (N := some 39) (v := ?_) (a' := ?_) #[true, true, true, false, true, false, false, true, true, true, false, false, false, false] rfl rfl (any_of HT_.out (by kernel_rfl)) (fun _ _ _ h => h) (Or.inl ⟨by rfl, ?_⟩) ?_ ?_
          rotate_left
          · intro w'
            go_simp
            with_reducible rfl
          rotate_left
          · simp only [Act.put, List.setIfInBounds_toArray, List.set_cons_zero, List.set_cons_succ, i64_w, i32_w]
            rfl
          refine pure_ (i := 10) (N := some 40) (v := ?_) (a' := ?_) #[true, true, true, false, true, false, false, true, true, true, true, false, false, false] rfl rfl (any_of HT_.out (by kernel_rfl)) (fun _ _ _ h => h) (Or.inl ⟨by rfl, ?_⟩) ?_ ?_
          rotate_left
          · intro w'
            go_simp
            with_reducible rfl
          rotate_left
          · simp only [Act.put, List.setIfInBounds_toArray, List.set_cons_zero, List.set_cons_succ, i64_w, i32_w]
            rfl
          refine take_ (i := 3) (N := some 33) (v := ?_) (a' := ?_) #[true, true, true, true, true, false, false, true, true, true, true, false, false, false] rfl rfl (take_ofW HT_.out HW_.out (by kernel_rfl)) (fun _ _ _ h => h) (Or.inl ⟨by rfl, ?_⟩) hHeld ?_ ?_
          rotate_left
          · rintro w' ⟨s0, s1, s2, s3, s4, s5⟩
            go_simp
            with_reducible rfl
          rotate_left
          · simp only [Act.put, List.setIfInBounds_toArray, List.set_cons_zero, List.set_cons_succ, i64_w, i32_w]
            rfl
          refine pure_ (i := 5) (N := some 35) (v := ?_) (a' := ?_) #[true, true, true, true, true, true, false, true, true, true, true, false, false, false] rfl rfl (any_of HT_.out (by kernel_rfl)) (fun _ _ _ h => h) (Or.inl ⟨by rfl, ?_⟩) ?_ ?_
          rotate_left
          · intro w'
            go_simp
            with_reducible rfl
          rotate_left
          · simp only [Act.put, List.setIfInBounds_toArray, List.set_cons_zero, List.set_cons_succ, i64_w, i32_w]
            rfl
          refine take_ (i := 6) (N := some 36) (v := ?_) (a' := ?_) #[true, true, true, true, true, true, true, true, true, true, true, false, false, false] rfl rfl (take_ofW HT_.out HW_.out (by kernel_rfl)) (fun _ _ _ h => h) (Or.inl ⟨by rfl, ?_⟩) hHeld ?_ ?_
          rotate_left
          · rintro w' ⟨s0, s1, s2, s3, s4, s5⟩
            go_simp
            with_reducible rfl
          rotate_left
          · simp only [Act.put, List.setIfInBounds_toArray, List.set_cons_zero, List.set_cons_succ, i64_w, i32_w]
            rfl
          refine take_ (i := 11) (N := some 41) (v := ?_) (a' := ?_) #[true, true, true, true, true, true, true, true, true, true, true, true, false, false] rfl rfl (take_ofW HT_.out HW_.out (by kernel_rfl)) (fun _ _ _ h => h) (Or.inl ⟨by rfl, ?_⟩) hHeld ?_ ?_
          rotate_left
          · rintro w' ⟨s0, s1, s2, s3, s4, s5⟩
            go_simp
            with_reducible rfl
          rotate_left
          · simp only [Act.put, List.setIfInBounds_toArray, List.set_cons_zero, List.set_cons_succ, i64_w, i32_w]
            rfl
          refine pure_ (i := 12) (N := some 42) (v := ?_) (a' := ?_) #[true, true, true, true, true, true, true, true, true, true, true, true, true, false] rfl rfl (any_of HT_.out (by kernel_rfl)) (fun _ _ _ h => h) (Or.inl ⟨by rfl, ?_⟩) ?_ ?_
          rotate_left
          · intro w'
            go_simp
            with_reducible rfl
          rotate_left
          · simp only [Act.put, List.setIfInBounds_toArray, List.set_cons_zero, List.set_cons_succ, i64_w, i32_w]
            rfl
          refine one_ (i := 13) (N := none) #[true, true, true, true, true, true, true, true, true, true, true, true, true, true] rfl rfl (one_of HT_.out (by kernel_rfl)) (by decide) (fun K hK => ?_)
          refine skip_ (w1 := ?_) (by rfl) rfl ?_ ?_
          rotate_left
          · go_simp
            rfl
          have hst := Bp.store HD.out.bp hik.out ev.out hadV.out hj.out
          have far := fun (a : Addr) (h : a.block ≠ adV.block) => cell_far2 (w := w2) (a := a) (p := adV.add (j * 4)) (by rw [add_block]; exact h)
          refine hK.out _ _ ⟨(far ⟨g, 6, none⟩ hgV.out _ _ _ _ _ _ _).trans hHeld.1, (far (adP.add i) (by rw [add_block]; exact hPV.out) _ _ _ _ _ _ _).trans hHeld.2.1, (far (adM.add (j * 4)) (by rw [add_block]; exact hMV.out) _ _ _ _ _ _ _).trans hHeld.2.2.1, (far ⟨(adM.add (j * 4)).block, _, none⟩ (by rw [add_block]; exact hMV.out) _ _ _ _ _ _ _).trans hHeld.2.2.2.1, (far ⟨(adM.add (j * 4)).block, _, none⟩ (by rw [add_block]; exact hMV.out) _ _ _ _ _ _ _).trans hHeld.2.2.2.2.1, (far ⟨(adM.add (j * 4)).block, _, none⟩ (by rw [add_block]; exact hMV.out) _ _ _ _ _ _ _).trans hHeld.2.2.2.2.2⟩ (fun hHeld => ?_)
          clear hK K
          refine done_ (done_of HT_.out (by kernel_rfl)) ?_
          try go_wp2
          exact ⟨⟨j + 1, (by first | exact congrArg _ hwj.out | exact congrArg (Value.int .i64) (by omega)), ⟨⟨hj.out, hst, HD.out.om.step (fun b hb => (Below.heap_setCell _ _ _ _ (by injection hb with hb; rw [← hb, add_block]; exact hMV.out)).trans ((Below.heap_setCell _ _ _ _ (by injection hb with hb; rw [← hb, add_block]; exact hMV.out)).trans ((Below.heap_setCell _ _ _ _ (by injection hb with hb; rw [← hb, add_block]; exact hMV.out)).trans (Below.heap_setCell _ _ _ _ (by injection hb with hb; rw [← hb, add_block]; exact hMV.out))))), HD.out.far⟩⟩⟩, (by first | exact meas _ j hj.out hwj.out | (show (c i).length - ((j : Int) + 1).toNat < (c i).length - ((j : Int)).toNat; have := hj.out; omega))⟩
        · have hj1 : decide ((j : Int) < ((c i).length : Int)) = false := decide_eq_false (by omega)
          have hje : j = (c i).length := by have := HJ.out.le; omega
          have hjb := HJ.out.bp
          rw [hje, cput_full] at hjb
          have hjb := Aside0.mk hjb
          clear hje
          go_wp2
          exact ⟨⟨i + 1, congrArg _ hwrap.out, ⟨⟨hik.out, hjb.out⟩⟩⟩, meas _ i hik.out hwrap.out⟩
    · have hi1 : decide ((i : Int) < (k : Int)) = false := decide_eq_false (by omega)
      have hie : i = k := by have := HR.out.1; omega
      have hd := HR.out.2
      rw [hie] at hd
      have hd := Aside0.mk hd
      clear hie
      go_wp2
      refine bodyPost_end (results_none rfl _ _ _) rfl ?_
      exact ⟨rfl, hd.out.congr (fun t ht => by unfold cput; rw [if_pos ht])⟩
end Go.Proofs.Ytdonanibfifodaa.Book
