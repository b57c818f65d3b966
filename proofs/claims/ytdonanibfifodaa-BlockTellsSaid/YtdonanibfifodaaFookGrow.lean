/- grow: every list of the book is grown, the old ones stay. Conditions: those that each names. -/
import Derived.Test.YtdonanibfifodaaFookPut
namespace Go.Proofs.Ytdonanibfifodaa.Book
open Go.RowKit Go.Proofs.YtdonanibfifodaaW.PrintWords Go.Proofs.YtdonanibfifodaaW.PrintLast Go.Proofs.YtdonanibfifodaaW.PrintMore Go.Proofs.Ytdonanibfifodaa.Aid Go.Proofs.Ytdonanibfifodaa.PBlockTells
set_option linter.unusedVariables false
set_option linter.unusedSimpArgs false

abbrev kL : Kd (List E) := Kd.slice 39 kE
/-- The grown lists so far. -/
def outs (n : Nat → Nat) (i : Nat) : List (List E) := (List.range i).map fun (t : Nat) => marks (t : Int) 0 (n t + 72)
theorem outs_length (n : Nat → Nat) (i : Nat) : (outs n i).length = i := by simp [outs]
theorem outs_snoc (n : Nat → Nat) (i : Nat) : outs n i ++ [marks (i : Int) 0 (n i + 72)] = outs n (i + 1) := by
  unfold outs
  rw [List.range_succ, List.map_append]
  rfl
/-- What is told of the book and of the grown lists. -/
structure Gr (w0 w : World) (g : Nat) (P Q : Value) (k : Nat) (v : Nat → Value) (n : Nat → Nat) (ok : Nat → Prop) (o : Value) (xs : List (List E)) : Prop where
  blk : w.heap[g]? = some (.cells (cellsB P Q) 33 (0, 0))
  rp : w.ownsRow w0.heap.size 23 1 P k ((List.range k).map v)
  ov : ∀ j, j < k → Own w w0.heap.size (v j) (marks (j : Int) 0 (n j))
  below : Below w0.heap.size w0 w
  ro : Kd.R kL 23 w w0.heap.size ok o xs
  po : ∀ b, o.ownBlock = some b → P.ownBlock ≠ some b
/-- What does not change. -/
structure Fx (w0 : World) (g k : Nat) (v : Nat → Value) (n : Nat → Nat) : Prop where
  av : ∀ i j, i < k → j < k → i ≠ j → ∀ b, (v i).ownBlock = some b → (v j).ownBlock ≠ some b
  ge : w0.heap.size ≤ g
  len : ∀ j, j < k → n j ≤ 100
  le : k ≤ 10
/-- The blocks of the lists from i on are none of these. -/
def okB (k : Nat) (v : Nat → Value) (i : Nat) : Nat → Prop := fun b => ∀ j, i ≤ j → j < k → (v j).ownBlock ≠ some b
theorem Gr.under {w0 w w1 : World} {g : Nat} {P Q : Value} {k : Nat} {v : Nat → Value} {n : Nat → Nat} {ok : Nat → Prop} {o : Value} {xs : List (List E)} (h : Gr w0 w g P Q k v n ok o xs) (hb : Below w.heap.size w w1) : Gr w0 w1 g P Q k v n ok o xs :=
  ⟨(hb.block g (blk_lt h.blk)).trans h.blk, pw_own_below h.rp hb, fun t ht => (h.ov t ht).below hb, below_step2 h.below hb, Kd.R_below h.ro hb, h.po⟩
/-- The list that grows. -/
structure Li (w0 w : World) (k : Nat) (v : Nat → Value) (n : Nat → Nat) (i s : Nat) (l : Value) : Prop where
  own : Own w w0.heap.size l (marks (i : Int) 0 (n i + s))
  alt : (∃ b cap, v i = .slice (some ⟨b, 0, none⟩) (n i) cap ∧ l = .slice (some ⟨b, 0, none⟩) (n i + s) cap) ∨ (∀ j, j < k → ∀ b, l.ownBlock = some b → (v j).ownBlock ≠ some b)
/-- .. and all else. -/
structure Lg (w0 w : World) (g : Nat) (P Q : Value) (k : Nat) (v : Nat → Value) (n : Nat → Nat) (i s : Nat) (l o : Value) : Prop where
  gr : Gr w0 w g P Q k v n (fun b => okB k v i b ∧ l.ownBlock ≠ some b) o (outs n i)
  li : Li w0 w k v n i s l
theorem Lg.under {w0 w w1 : World} {g : Nat} {P Q : Value} {k : Nat} {v : Nat → Value} {n : Nat → Nat} {i s : Nat} {l o : Value} (h : Lg w0 w g P Q k v n i s l o) (hb : Below w.heap.size w w1) : Lg w0 w1 g P Q k v n i s l o :=
  ⟨h.gr.under hb, ⟨h.li.own.below hb, h.li.alt⟩⟩
theorem marks_ext (i : Int) (a m : Nat) : marks i 0 a ++ marks i a m = marks i 0 (a + m) := by
  have := marks_app i 0 a m
  rwa [Nat.zero_add] at this
/-- Marks are put behind the list that grows. -/
theorem Lg.more {w0 w w1 : World} {g : Nat} {P Q : Value} {k : Nat} {v : Nat → Value} {n : Nat → Nat} {i s m : Nat} {l l1 o : Value} (F : Fx w0 g k v n) (hi : i < k) (h : Lg w0 w g P Q k v n i s l o)
    (h1 : Own w1 w0.heap.size l1 (marks (i : Int) 0 (n i + s) ++ marks (i : Int) (n i + s) m)) (hB : Below w0.heap.size w0 w1) (hg : w.grownBy w1 l.ownBlock)
    (hk : (∃ b cap, l = .slice (some ⟨b, 0, none⟩) (marks (i : Int) 0 (n i + s)).length cap ∧ l1 = .slice (some ⟨b, 0, none⟩) ((marks (i : Int) 0 (n i + s)).length + m) cap) ∨ (∀ b, l1.ownBlock = some b → w.heap.size ≤ b) ∧ w.grownBy w1 none) :
    Lg w0 w1 g P Q k v n i (s + m) l1 o := by
  rw [marks_ext, Nat.add_assoc] at h1
  rw [marks_length] at hk
  have hgl : ∀ b, l.ownBlock = some b → g ≠ b := fun b hb => h.li.own.far_blk hb h.gr.blk (by decide)
  have hpl : ∀ b, l.ownBlock = some b → P.ownBlock ≠ some b := by
    intro b hb he
    have := own_type_ne h.gr.rp h.li.own.2.choose_spec.1 (by decide)
    rw [hb, he] at this
    simp at this
  have hblk : w1.heap[g]? = some (.cells (cellsB P Q) 33 (0, 0)) := (hg.block g (blk_lt h.gr.blk) (fun e => hgl g e.symm rfl)).trans h.gr.blk
  have hrp : w1.ownsRow w0.heap.size 23 1 P k ((List.range k).map v) := own_other h.gr.rp hg (by
    rcases hp : P.ownBlock with _ | p
    · exact .inl rfl
    · exact .inr (fun e => hpl p e.symm hp))
  rcases hk with ⟨b, cap, e, e1⟩ | ⟨hfr, hgn⟩
  · have hlb : l.ownBlock = some b := by rw [e]; rfl
    have hl1 : l1.ownBlock = l.ownBlock := by rw [e, e1]; rfl
    rw [hlb] at hg
    refine ⟨⟨hblk, hrp, fun j hj => ?_, hB, ?_, h.gr.po⟩, ⟨h1, ?_⟩⟩
    · by_cases hs : (v j).ownBlock = some b
      · rcases h.li.alt with ⟨b', cap', ev, el⟩ | ha
        · have hj2 : j = i := by
            by_cases hji : j = i
            · exact hji
            · exact absurd hs (F.av i j hi hj (fun e => hji e.symm) b (by rw [ev]; rw [e] at el; injection el with ha; injection ha with ha; injection ha with ha; rw [ha]; rfl))
          subst hj2
          rw [ev]
          rw [e] at el
          injection el with ha hn hc
          injection ha with ha
          injection ha with ha
          subst ha; subst hc
          rw [e1] at h1
          have := h1.head (m := n j) (by omega)
          have e3 : (marks (j : Int) 0 (n j + (s + m))).take (n j) = marks (j : Int) 0 (n j) := by
            rw [← marks_ext (j : Int) (n j) (s + m), List.take_left' (marks_length _ _ _)]
          rwa [e3] at this
        · exact absurd hs (ha j hj b hlb)
      · exact (h.gr.ov j hj).grown hg (fun q hq e => hs (hq.trans e))
    · rw [hl1]
      exact Kd.R_grown h.gr.ro hg (fun q hq e => hq.2 (hlb.trans e.symm))
    · rcases h.li.alt with ⟨b', cap', ev, el⟩ | ha
      · rw [e] at el
        injection el with ha hn hc
        injection ha with ha
        injection ha with ha
        subst ha; subst hc
        exact .inl ⟨b, cap, ev, by rw [e1, Nat.add_assoc]⟩
      · right
        rw [hl1]
        exact ha
  · refine ⟨⟨hblk, hrp, fun j hj => (h.gr.ov j hj).grown hgn (fun q _ => by simp), hB, ?_, h.gr.po⟩, ⟨h1, .inr (fun j hj b hb hv => ?_)⟩⟩
    · have h2 := Kd.R_mono (Kd.R_bound h.gr.ro) (ok' := fun q => okB k v i q ∧ q < w.heap.size) (fun q hq => ⟨hq.1.1, hq.2.2.1⟩)
      exact Kd.R_mono (Kd.R_grown h2 hgn (fun q _ => by simp)) (fun q hq => ⟨hq.1, fun e => by have := hfr q e; have := hq.2; omega⟩)
    · have h2 := hfr b hb
      have h3 := (h.gr.ov j hj).lt hv
      omega
theorem Lg.start {w0 w : World} {g : Nat} {P Q : Value} {k : Nat} {v : Nat → Value} {n : Nat → Nat} {i : Nat} {o : Value} (F : Fx w0 g k v n) (hi : i < k) (h : Gr w0 w g P Q k v n (okB k v i) o (outs n i)) : Lg w0 w g P Q k v n i 0 (v i) o := by
  have ho := h.ov i hi
  refine ⟨⟨h.blk, h.rp, h.ov, h.below, Kd.R_mono h.ro (fun q hq => ⟨hq, hq i (Nat.le_refl _) hi⟩), h.po⟩, ⟨ho, ?_⟩⟩
  obtain ⟨_, inner, hr, _⟩ := ho
  rcases hr.2 with ⟨hv, _⟩ | ⟨b, cap, cur, hv, _⟩
  · right
    intro j hj b hb
    rw [hv] at hb; cases hb
  · left
    rw [marks_length] at hv
    exact ⟨b, cap, hv, hv⟩
theorem Lg.made {w0 w : World} {g : Nat} {P Q : Value} {k : Nat} {v : Nat → Value} {n : Nat → Nat} {i : Nat} {l o : Value} (h : Lg w0 w g P Q k v n i 72 l o) : Kd.R kE 39 w w0.heap.size (fun b => l.ownBlock = some b) l (marks (i : Int) 0 (n i + 72)) := by
  obtain ⟨_, inner, ho, hr⟩ := h.li.own
  exact ⟨fun _ hb => hb, inner, ho, hr.imp_ (fun _ _ hq => M_any hq)⟩
theorem Lg.apart {w0 w : World} {g : Nat} {P Q : Value} {k : Nat} {v : Nat → Value} {n : Nat → Nat} {i : Nat} {l o : Value} (F : Fx w0 g k v n) (hi : i < k) (h : Lg w0 w g P Q k v n i 72 l o) : ∀ b, l.ownBlock = some b → okB k v (i + 1) b ∧ some b ≠ o.ownBlock := by
  intro b hb
  refine ⟨fun j h1 h2 hv => ?_, fun e => ?_⟩
  · rcases h.li.alt with ⟨b', cap, ev, el⟩ | ha
    · refine F.av i j hi h2 (by omega) b ?_ hv
      rw [ev]
      rw [el] at hb
      exact hb
    · exact ha j h2 b hb hv
  · obtain ⟨cells, hc⟩ := Kd.R_typed h.gr.ro b e.symm
    exact h.li.own.far_blk hb hc (by decide) rfl
theorem Lg.fresh {w0 w : World} {g : Nat} {P Q : Value} {k : Nat} {v : Nat → Value} {n : Nat → Nat} {i : Nat} {l o : Value} (h : Lg w0 w g P Q k v n i 72 l o) : ∀ b, w.heap.size ≤ b → okB k v (i + 1) b := by
  intro b hb j h1 h2 hv
  have := (h.gr.ov j h2).lt hv
  omega
theorem Lg.row {w0 w : World} {g : Nat} {P Q : Value} {k : Nat} {v : Nat → Value} {n : Nat → Nat} {i : Nat} {l o : Value} (h : Lg w0 w g P Q k v n i 72 l o) : Kd.R kL 23 w w0.heap.size (okB k v (i + 1)) o (outs n i) :=
  Kd.R_mono h.gr.ro (fun b hb j h1 h2 => hb.1 j (by omega) h2)
/-- A grown list is put behind the others. -/
theorem Lg.done {w0 w w1 : World} {g : Nat} {P Q : Value} {k : Nat} {v : Nat → Value} {n : Nat → Nat} {i : Nat} {l o o1 : Value} (F : Fx w0 g k v n) (hi : i < k) (h : Lg w0 w g P Q k v n i 72 l o)
    (h1 : Kd.R kL 23 w1 w0.heap.size (okB k v (i + 1)) o1 (outs n i ++ [marks (i : Int) 0 (n i + 72)])) (hB : Below w0.heap.size w0 w1) (hg : w.grownBy w1 o.ownBlock) (hat : o1.ownBlock = o.ownBlock ∨ ∃ b, o1.ownBlock = some b ∧ w.heap.size ≤ b) :
    Gr w0 w1 g P Q k v n (okB k v (i + 1)) o1 (outs n (i + 1)) := by
  rw [outs_snoc] at h1
  have hty : ∀ b, o.ownBlock = some b → ∃ cells, w.heap[b]? = some (.cells cells 23 (0, 0)) := Kd.R_typed h.gr.ro
  refine ⟨(hg.block g (blk_lt h.gr.blk) (fun e => ?_)).trans h.gr.blk, own_other h.gr.rp hg ?_, fun j hj => (h.gr.ov j hj).grown hg (fun q hq e => ?_), hB, h1, fun b hb hp => ?_⟩
  · obtain ⟨cells, hc⟩ := hty g e.symm
    have := hc.symm.trans h.gr.blk
    injection this with this
    injection this with _ this
    exact absurd this (by decide)
  · rcases hp : P.ownBlock with _ | p
    · exact .inl rfl
    · exact .inr (fun e => h.gr.po p e.symm hp)
  · obtain ⟨cells, hc⟩ := hty q e.symm
    exact (h.gr.ov j hj).far_blk hq hc (by decide) rfl
  · rcases hat with hat | ⟨b', hb', hle⟩
    · exact h.gr.po b (hat ▸ hb) hp
    · rw [hb'] at hb
      injection hb with hb
      have := own_lt h.gr.rp b hp
      omega

theorem infoL : (Try.prog.info? 23).map (fun i => (i.zero, i.size, i.bytes)) = some (some (.slice none 0 0), 1, 24) := by kernel_rfl
theorem gr_cell {w0 w : World} {g : Nat} {P Q : Value} {k : Nat} {v : Nat → Value} {n : Nat → Nat} {ok : Nat → Prop} {o : Value} {xs : List (List E)} (h : Gr w0 w g P Q k v n ok o xs) : w.cell? ⟨g, 6, none⟩ = some P := (blk_cell h.blk 6).trans rfl
theorem li_slice {w0 w : World} {k : Nat} {v : Nat → Value} {n : Nat → Nat} {i s : Nat} {l : Value} (h : Li w0 w k v n i s l) : ∃ A c, l = .slice A (n i + s) c := by
  obtain ⟨A, c, e⟩ := Kd.R_slice h.own
  rw [marks_length] at e
  exact ⟨A, c, e⟩
set_option maxHeartbeats 1000000 in
set_option maxRecDepth 100000 in
theorem grow_any (w0 w : World) (g : Nat) (P Q : Value) (k : Nat) (v : Nat → Value) (n : Nat → Nat) (F : Fx w0 g k v n) (H : Gr w0 w g P Q k v n (okB k v 0) (.slice none 0 0) []) : Calls Try.prog 36 #[.pointer (some ⟨g, 0, none⟩)] w fun e w' => ∃ o, e = .returned o ∧ Gr w0 w' g P Q k v n (fun _ => True) o (outs n k) := by
  have F0 := Aside0.mk F
  have H0 := Aside0.mk H
  clear F H
  obtain ⟨AP, capP, rfl⟩ := own_slice H0.out.rp
  go_enter Try.func36, Try.ntmps36
  go_wp2
  go_loopw [3, 4] (fun o t wl => ∃ (i : Nat), t = .int .i64 (i : Int) ∧ Aside0 (i ≤ k ∧ Gr w0 wl g (.slice AP k capP) Q k v n (okB k v i) o (outs n i))) (fun _ t _ => k - (intOf t).toNat)
  case atStart => exact ⟨0, rfl, ⟨⟨Nat.zero_le _, H0.out⟩⟩⟩
  case round =>
    obtain ⟨i, rfl, HR⟩ := hrel
    have e8 := gr_cell HR.out.2
    by_cases hik : i < k
    · have hi1 : decide ((i : Int) < (k : Int)) = true := decide_eq_true (by omega)
      have hi2 : decide ((i : Int) < 0) = false := decide_eq_false (by omega)
      obtain ⟨adP, cp', eP, hP⟩ := heads HR.out.2.rp i hik
      injection eP with eA _ eC
      subst eA; subst eC
      have hwrap := Aside0.mk (show wrap64 ((i : Int) + 1) = ((i + 1 : Nat) : Int) from by unfold wrap64; have := F0.out.le; omega)
      have hLs := Aside0.mk (Lg.start F0.out hik HR.out.2)
      have hik := Aside0.mk hik
      have hni := Aside0.mk (F0.out.len i hik.out)
      obtain ⟨A1, c1, ev⟩ := li_slice hLs.out.li
      rw [ev] at hP
      have ev := Aside0.mk ev
      go_wp2
      go_loopw [5, 6] (fun l t wl => ∃ (s : Nat), t = .int .i64 (s : Int) ∧ Aside0 (s ≤ 12 ∧ Lg w0 wl g (.slice (some adP) k capP) Q k v n i s l u3)) (fun _ t _ => 12 - (intOf t).toNat)
      case atStart => exact ⟨0, rfl, ⟨⟨Nat.zero_le _, ev.out ▸ hLs.out⟩⟩⟩
      case round =>
        obtain ⟨s, rfl, HL⟩ := hrel
        clear e8 hP hLs ev HR
        obtain ⟨Al, cl, el⟩ := li_slice HL.out.2.li
        obtain ⟨N, hN0⟩ : ∃ N, n i + s = N := ⟨_, rfl⟩
        rw [hN0] at el
        subst el
        have hN := Aside0.mk hN0
        clear hN0
        by_cases hs : s < 12
        · have hs1 : decide ((s : Int) < 12) = true := decide_eq_true (by omega)
          have hws := Aside0.mk (show wrap64 ((s : Int) + 1) = ((s + 1 : Nat) : Int) from by unfold wrap64; omega)
          obtain ⟨K, hK⟩ := mark_ev (i : Int) N 1 (by have := hni.out; have := hN.out; omega)
          have HM := fun (W : World) => bywashbook_markFrames.calls K (i : Int) (N : Int) 1 _ W (hK K (Nat.le_refl _))
          clear hK
          have hs := Aside0.mk hs
          go_wp2_with (first
            | (go_at_call 55; refine (HM _).mono ?_; rintro e w1 ⟨m, rfl, hm, hb⟩; clear HM; obtain ⟨Am, cm, em⟩ := Kd.R_slice hm; rw [marks_length] at em; subst em; have HL1 := Aside0.mk (HL.out.2.under hb); have hm1 := Aside0.mk ((Kd.R_reads' hm).2.2); clear hm hb)
            | ((with_reducible refine gate_builtin (b := .append) (xs := #[(.tmp 27), (.tmp 31)]) rfl ?_); at_builtin; refine E_append (w0 := w0) (base := w0.heap.size) rfl (.tmp 27) (.tmp 31) rfl _ _ _ Am _ cm rfl rfl HL1.out.li.own (marks_length _ _ _ ▸ hm1.out) (by decide) HL1.out.gr.below HL1.out.gr.below.size (by rw [marks_length]; have := hni.out; have := hs.out; omega) ?_; intro l1 w2 h1 hB hg hk))
          exact ⟨⟨s + 1, congrArg (Value.int .i64) (by omega), ⟨⟨hs.out, Lg.more F0.out hik.out HL1.out (by have := h1; rw [← hN.out] at this; exact this) hB hg hk⟩⟩⟩, by show 12 - ((s : Int) + 1).toNat < 12 - ((s : Int)).toNat; have := hs.out; omega⟩
        · have hse : s = 12 := by have := HL.out.1; omega
          subst hse
          obtain ⟨K, hK⟩ := mark_ev (i : Int) N 60 (by have := hni.out; have := hN.out; omega)
          have HM := fun (W : World) => bywashbook_markFrames.calls K (i : Int) (N : Int) 60 _ W (hK K (Nat.le_refl _))
          clear hK hs
          go_wp2_with (first
            | (go_at_call 55; refine (HM _).mono ?_; rintro e w1 ⟨m, rfl, hm, hb⟩; clear HM; obtain ⟨Am, cm, em⟩ := Kd.R_slice hm; rw [marks_length] at em; subst em; have HL1 := Aside0.mk (HL.out.2.under hb); have hm1 := Aside0.mk ((Kd.R_reads' hm).2.2); clear hm hb)
            | ((with_reducible refine gate_builtin (b := .append) (xs := #[(.tmp 34), (.tmp 38)]) rfl ?_); at_builtin; refine E_append (w0 := w0) (base := w0.heap.size) rfl (.tmp 34) (.tmp 38) rfl _ _ _ Am _ cm rfl rfl HL1.out.li.own (marks_length _ _ _ ▸ hm1.out) (by decide) HL1.out.gr.below HL1.out.gr.below.size (by rw [marks_length]; have := hni.out; omega) ?_; intro l1 w2 h1 hB hg hk; have HL2 := Aside0.mk (Lg.more F0.out hik.out HL1.out (by have := h1; rw [← hN.out] at this; exact this) hB hg hk); obtain ⟨A2, c2, e2⟩ := li_slice HL2.out.li; clear h1 hB hg hk HL1 hm1; subst e2)
            | ((with_reducible refine gate_builtin (b := .append) (xs := #[(.tmp 33), (.tmp 40)]) rfl ?_); at_builtin; refine Kd.R_append kL (w0 := w0) w0.heap.size rfl (.tmp 33) (.tmp 40) 30 23 (.slice none 0 0) 24 rfl Try.underlying30 infoL rfl (by decide) (by omega) u3 (outs n i) (marks (i : Int) 0 (n i + 72)) [(.slice A2 (n i + (12 + 60)) c2)] (okB k v (i + 1)) (fun b => (Value.slice A2 (n i + (12 + 60)) c2).ownBlock = some b) rfl rfl ⟨_, rfl, Lg.made HL2.out⟩ (Lg.apart F0.out hik.out HL2.out) (Lg.fresh HL2.out) (Lg.row HL2.out) HL2.out.gr.below HL2.out.gr.below.size (by rw [outs_length]; have := hik.out; have := F0.out.le; omega) ?_; intro o1 w3 h1 hB hg hat))
          exact ⟨⟨i + 1, congrArg _ hwrap.out, ⟨⟨hik.out, Lg.done F0.out hik.out HL2.out h1 hB hg hat⟩⟩⟩, meas _ i hik.out hwrap.out⟩
    · have hi1 : decide ((i : Int) < (k : Int)) = false := decide_eq_false (by omega)
      have hie : i = k := by have := HR.out.1; omega
      have hd := HR.out.2
      rw [hie] at hd
      have hd := Aside0.mk hd
      clear hie
      go_wp2
      go_ret
      exact ⟨_, rfl, ⟨hd.out.blk, hd.out.rp, hd.out.ov, hd.out.below, Kd.R_mono hd.out.ro (fun _ _ => trivial), hd.out.po⟩⟩
end Go.Proofs.Ytdonanibfifodaa.Book
