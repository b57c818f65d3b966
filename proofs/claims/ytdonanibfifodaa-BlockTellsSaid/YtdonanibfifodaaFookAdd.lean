/- One more list in the book. Conditions: those that each names. -/
import Derived.Test.YtdonanibfifodaaFookGrow
namespace Go.Proofs.Ytdonanibfifodaa.Book
open Go.RowKit Go.Proofs.YtdonanibfifodaaW.PrintWords Go.Proofs.YtdonanibfifodaaW.PrintLast Go.Proofs.YtdonanibfifodaaW.PrintMore Go.Proofs.Ytdonanibfifodaa.Aid Go.Proofs.Ytdonanibfifodaa.PBlockTells
set_option linter.unusedVariables false
set_option linter.unusedSimpArgs false

def snoc {α : Type} (f : Nat → α) (k : Nat) (x : α) : Nat → α := fun t => if t = k then x else f t
theorem snoc_at {α : Type} (f : Nat → α) (k : Nat) (x : α) : snoc f k x k = x := if_pos rfl
theorem snoc_lt {α : Type} (f : Nat → α) {k t : Nat} (x : α) (h : t < k) : snoc f k x t = f t := if_neg (by omega)
theorem snoc_map {α : Type} (f : Nat → α) (k : Nat) (x : α) : (List.range k).map f ++ [x] = (List.range (k + 1)).map (snoc f k x) := by
  rw [List.range_succ, List.map_append, List.map_singleton, snoc_at]
  congr 1
  exact List.map_congr_left (fun t ht => (snoc_lt f x (List.mem_range.1 ht)).symm)
/-- What else lies in memory stays. -/
def Stays (w w1 : World) (g : Nat) (P Q : Value) : Prop := w.heap.size ≤ w1.heap.size ∧ ∀ b, b < w.heap.size → b ≠ g → P.ownBlock ≠ some b → Q.ownBlock ≠ some b → w1.heap[b]? = w.heap[b]?
/-- A row of headers behind an append: the old one, or a new one. -/
def New (w : World) (P P1 : Value) : Prop := P1.ownBlock = P.ownBlock ∨ ∃ b, P1.ownBlock = some b ∧ w.heap.size ≤ b
theorem Stays.below {w w1 w2 : World} {g : Nat} {P Q : Value} (h : Stays w w1 g P Q) (hb : Below w1.heap.size w1 w2) : Stays w w2 g P Q :=
  ⟨Nat.le_trans h.1 hb.size, fun b h1 h2 h3 h4 => (hb.block b (Nat.lt_of_lt_of_le h1 h.1)).trans (h.2 b h1 h2 h3 h4)⟩
theorem Stays.then_ {w w1 w2 : World} {g : Nat} {P P1 Q : Value} (h : Stays w w1 g P Q) (h2 : Stays w1 w2 g P1 Q) (hat : P1.ownBlock = P.ownBlock ∨ ∃ b, P1.ownBlock = some b ∧ w.heap.size ≤ b) : Stays w w2 g P Q :=
  ⟨Nat.le_trans h.1 h2.1, fun b q1 q2 q3 q4 => (h2.2 b (Nat.lt_of_lt_of_le q1 h.1) q2 (by
    rcases hat with hat | ⟨b', hb', hle⟩
    · rw [hat]; exact q3
    · rw [hb']; intro e; injection e with e; omega) q4).trans (h.2 b q1 q2 q3 q4)⟩
theorem cell_lt {W : World} {a : Addr} {v : Value} (h : W.cell? a = some v) : a.block < W.heap.size := by
  rcases Nat.lt_or_ge a.block W.heap.size with h1 | h1
  · exact h1
  · simp [World.cell?, Array.getElem?_eq_none h1] at h
theorem on_alloc {w : World} {a : Addr} {v : Value} (h : w.cell? a = some v) (o : Obj) : (w.alloc o).cell? a = some v := ((below_alloc (Below.refl _ _) o).cell (cell_lt h)).trans h
/-- With one list more, not yet with its copy. -/
structure Bm (w0 w : World) (g : Nat) (P Q : Value) (k : Nat) (v u : Nat → Value) (c : Nat → List E) : Prop where
  bp : Bp w0 w g P Q (k + 1) v c
  rq : w.ownsRow w0.heap.size 23 1 Q k ((List.range k).map u)
  ou : ∀ j, j < k → Own w w0.heap.size (u j) (c j)
  pq : ∀ b, P.ownBlock = some b → Q.ownBlock ≠ some b
theorem own_row {w w1 : World} {base : Nat} {P : Value} {k : Nat} {xs : List Value} {r : Option Nat} (hr : w.ownsRow base 23 1 P k xs) {x : Value} {ys : List E} (h : Own w base x ys) (hP : P.ownBlock = r) (hg : w.grownBy w1 r) : Own w1 base x ys :=
  h.grown hg (fun q hq e => by
    obtain ⟨cells, hc⟩ := own_typed hr q (hP.trans e.symm)
    exact h.far_blk hq hc (by decide) rfl)
theorem row_ne {w : World} {base : Nat} {P : Value} {k g : Nat} {xs : List Value} {cells : Array Value} (hr : w.ownsRow base 23 1 P k xs) (hg : w.heap[g]? = some (.cells cells 33 (0, 0))) : P.ownBlock ≠ some g := by
  intro e
  obtain ⟨c2, hc⟩ := own_typed hr g e
  have := hc.symm.trans hg
  injection this with this
  injection this with _ this
  exact absurd this (by decide)
theorem Bk.more {w0 w w1 : World} {g : Nat} {P Q P1 : Value} {k : Nat} {v u : Nat → Value} {c : Nat → List E} (H : Bk w0 w g P Q k v u c) {x : Value} {xs : List E} (hx : Own w w0.heap.size x xs) (hl : xs.length ≤ 100)
    (hf : ∀ j, j < k → ∀ b, (v j).ownBlock = some b → x.ownBlock ≠ some b) (h1 : w1.ownsRow w0.heap.size 23 1 P1 (k + 1) ((List.range k).map v ++ [x])) (hB : Below w0.heap.size w0 w1) (hg : w.grownBy w1 P.ownBlock) (hat : P1.ownBlock = P.ownBlock ∨ ∃ b, P1.ownBlock = some b ∧ w.heap.size ≤ b) :
    Bm w0 (w1.setCell ⟨g, 6, none⟩ P1) g P1 Q k (snoc v k x) u (snoc c k xs) ∧ Stays w (w1.setCell ⟨g, 6, none⟩ P1) g P Q := by
  rw [snoc_map] at h1
  have hbl : w1.heap[g]? = some (.cells (cellsB P Q) 33 (0, 0)) := (hg.block g (blk_lt H.bp.blk) (fun e => row_ne H.bp.rp H.bp.blk e.symm)).trans H.bp.blk
  have hfar : ∀ (y : Value) (ys : List E), Own w w0.heap.size y ys → Own (w1.setCell ⟨g, 6, none⟩ P1) w0.heap.size y ys := fun y ys hy => (own_row H.bp.rp hy rfl hg).step (fun q hq => Below.heap_setCell w1 ⟨g, 6, none⟩ P1 q (fun e => (own_row H.bp.rp hy rfl hg).far_blk hq hbl (by decide) e.symm))
  have hq1 : w1.ownsRow w0.heap.size 23 1 Q k ((List.range k).map u) := own_other H.rq hg (by
    rcases hq : Q.ownBlock with _ | q
    · exact .inl rfl
    · exact .inr (fun e => H.pq q e.symm hq))
  refine ⟨⟨⟨blk_set hbl 6 P1, own_setCell h1 (fun e => row_ne h1 hbl e.symm) P1, fun j hj => ?_, fun i j hi hj hij b hb => ?_, H.bp.ge, hB.setCell H.bp.ge P1, fun j hj => ?_⟩, own_setCell hq1 (fun e => row_ne hq1 hbl e.symm) P1, fun j hj => ?_, ?_⟩, ⟨?_, ?_⟩⟩
  · by_cases h : j = k
    · subst h; rw [snoc_at, snoc_at]; exact hfar _ _ hx
    · rw [snoc_lt v x (by omega), snoc_lt c xs (by omega)]; exact hfar _ _ (H.bp.ov j (by omega))
  · by_cases h : i = k
    · subst h
      rw [snoc_at] at hb
      rw [snoc_lt v x (by omega)]
      exact fun e => hf j (by omega) b e hb
    · rw [snoc_lt v x (by omega)] at hb
      by_cases h2 : j = k
      · subst h2; rw [snoc_at]; exact hf i (by omega) b hb
      · rw [snoc_lt v x (by omega)]; exact H.bp.av i j (by omega) (by omega) hij b hb
  · by_cases h : j = k
    · subst h; rw [snoc_at]; exact hl
    · rw [snoc_lt c xs (by omega)]; exact H.bp.len j (by omega)
  · rw [snoc_lt c xs hj]; exact hfar _ _ (H.ou j hj)
  · intro b hb hq
    rcases hat with hat | ⟨b', hb', hle⟩
    · exact H.pq b (hat ▸ hb) hq
    · rw [hb'] at hb
      injection hb with hb
      have := own_lt H.rq b hq
      omega
  · show w.heap.size ≤ (w1.setCell ⟨g, 6, none⟩ P1).heap.size
    simpa using hg.size
  · intro b hb hbg hp hq
    exact (Below.heap_setCell w1 ⟨g, 6, none⟩ P1 b hbg).trans (hg.block b hb (fun e => hp e.symm))

theorem Bm.copied {w0 w w1 : World} {g : Nat} {P Q Q1 : Value} {k : Nat} {v u : Nat → Value} {c : Nat → List E} (H : Bm w0 w g P Q k v u c) {y : Value} (hy : Own w w0.heap.size y (c k))
    (h1 : w1.ownsRow w0.heap.size 23 1 Q1 (k + 1) ((List.range k).map u ++ [y])) (hB : Below w0.heap.size w0 w1) (hg : w.grownBy w1 Q.ownBlock) (hat : Q1.ownBlock = Q.ownBlock ∨ ∃ b, Q1.ownBlock = some b ∧ w.heap.size ≤ b) :
    Bk w0 (w1.setCell ⟨g, 7, none⟩ Q1) g P Q1 (k + 1) v (snoc u k y) c ∧ Stays w (w1.setCell ⟨g, 7, none⟩ Q1) g P Q := by
  rw [snoc_map] at h1
  have hbl : w1.heap[g]? = some (.cells (cellsB P Q) 33 (0, 0)) := (hg.block g (blk_lt H.bp.blk) (fun e => row_ne H.rq H.bp.blk e.symm)).trans H.bp.blk
  have hfar : ∀ (y : Value) (ys : List E), Own w w0.heap.size y ys → Own (w1.setCell ⟨g, 7, none⟩ Q1) w0.heap.size y ys := fun y ys hy => (own_row H.rq hy rfl hg).step (fun q hq => Below.heap_setCell w1 ⟨g, 7, none⟩ Q1 q (fun e => (own_row H.rq hy rfl hg).far_blk hq hbl (by decide) e.symm))
  have hp1 : w1.ownsRow w0.heap.size 23 1 P (k + 1) ((List.range (k + 1)).map v) := own_other H.bp.rp hg (by
    rcases hp : P.ownBlock with _ | p
    · exact .inl rfl
    · exact .inr (fun e => H.pq p hp e.symm))
  refine ⟨⟨⟨blk_set hbl 7 Q1, own_setCell hp1 (fun e => row_ne hp1 hbl e.symm) Q1, fun j hj => hfar _ _ (H.bp.ov j hj), H.bp.av, H.bp.ge, hB.setCell H.bp.ge Q1, H.bp.len⟩, own_setCell h1 (fun e => row_ne h1 hbl e.symm) Q1, fun j hj => ?_, ?_⟩, ⟨?_, ?_⟩⟩
  · by_cases h : j = k
    · subst h; rw [snoc_at]; exact hfar _ _ hy
    · rw [snoc_lt u y (by omega)]; exact hfar _ _ (H.ou j (by omega))
  · intro b hb hq
    rcases hat with hat | ⟨b', hb', hle⟩
    · exact H.pq b hb (hat ▸ hq)
    · rw [hb'] at hq
      injection hq with hq
      have := own_lt H.bp.rp b hb
      omega
  · show w.heap.size ≤ (w1.setCell ⟨g, 7, none⟩ Q1).heap.size
    simpa using hg.size
  · intro b hb hbg hp hq
    exact (Below.heap_setCell w1 ⟨g, 7, none⟩ Q1 b hbg).trans (hg.block b hb (fun e => hq e.symm))
theorem Bm.under {w0 w w1 : World} {g : Nat} {P Q : Value} {k : Nat} {v u : Nat → Value} {c : Nat → List E} (H : Bm w0 w g P Q k v u c) (hb : Below w.heap.size w w1) : Bm w0 w1 g P Q k v u c :=
  ⟨H.bp.under hb, pw_own_below H.rq hb, fun j hj => (H.ou j hj).below hb, H.pq⟩
theorem infoL2 : (Try.prog.info? 23).map (fun i => (i.zero, i.size, i.bytes)) = some (some (.slice none 0 0), 1, 24) := by kernel_rfl
theorem rows_size {w : World} {base : Nat} {P : Value} {k : Nat} {v : Nat → Value} (h : w.ownsRow base 23 1 P k ((List.range k).map v)) : ((List.range k).map v).length = k := by simp
def Tr13_2 : Bool × List (List Nat × List Nat) := (true, [([], []), ([], []), ([1], [1]), ([2], [2]), ([3], [3]), ([], []), ([5], [5]), ([6], [6]), ([4, 7, 6], [4, 7]), ([0, 0, 1, 2, 3, 4, 5, 6, 7, 8], [0]), ([9, 0, 1, 2, 3, 4, 5, 6, 7, 8], [9]), ([10, 8, 8, 0, 1, 2, 3, 4, 5, 6, 7, 8], [8, 10])])
def Br13_2 : List Nat := [0, 0, 2, 6, 14, 0, 32, 96, 254, 511, 1023, 2047]
theorem tabr13_2 : rtab .any (opsOf Try.f13 2) = Tr13_2 := by kernel_rfl
theorem bitsr13_2 : waitsOk Tr13_2.2 Br13_2 = true := by kernel_rfl

set_option maxHeartbeats 1000000 in
set_option maxRecDepth 100000 in
theorem add_any (w0 w : World) (g : Nat) (P Q : Value) (k : Nat) (v u : Nat → Value) (c : Nat → List E) (H : Bk w0 w g P Q k v u c) (hk : k ≤ 9) (A : Option Addr) (cp : Nat) (xs : List E) (hx : Own w w0.heap.size (.slice A xs.length cp) xs) (hl : xs.length ≤ 100)
    (hf : ∀ j, j < k → ∀ b, (v j).ownBlock = some b → (Value.slice A xs.length cp).ownBlock ≠ some b) :
    Calls Try.prog 13 #[.pointer (some ⟨g, 0, none⟩), .slice A xs.length cp] w fun e w' => e = .returned (.tuple #[]) ∧ ∃ P1 Q1 y, Bk w0 w' g P1 Q1 (k + 1) (snoc v k (.slice A xs.length cp)) (snoc u k y) (snoc c k xs) ∧ Stays w w' g P Q ∧ New w P P1 ∧ New w Q Q1 := by
  have H0 := Aside0.mk H
  have hk1 : decide ((k : Int) < 250) = true := decide_eq_true (by omega)
  have hk0 := Aside0.mk hk
  have hx0 := Aside0.mk hx
  have hl0 := Aside0.mk hl
  have hf0 := Aside0.mk hf
  have hr := Aside0.mk ((Kd.R_reads' hx))
  have e8 := H.bp.cellP
  have z8 := blk_frozen H.bp.blk 6
  clear H hk hx hl hf
  obtain ⟨AP, capP, rfl⟩ := own_slice H0.out.bp.rp
  obtain ⟨AQ, capQ, rfl⟩ := own_slice H0.out.rq
  go_enter Try.func13, Try.ntmps13
  go_wp2_with ((with_reducible refine gate_builtin (b := .append) (xs := #[(.tmp 14), (.tmp 16)]) rfl ?_); at_builtin; refine print_append_cells (w0 := w0) w0.heap.size rfl (.tmp 14) (.tmp 16) 30 23 (.slice none 0 0) 1 24 rfl Try.underlying30 infoL2 rfl (by decide) (by omega) _ k _ [.slice A xs.length cp] rfl rfl rfl (by intro q hq; rw [List.mem_singleton.1 hq]; rfl) H0.out.bp.rp H0.out.bp.below H0.out.bp.below.size (by have := hk0.out; omega) ?_; intro P1 w1 h1 hB hg hat; obtain ⟨A1, cap1, rfl⟩ := own_slice h1; obtain ⟨hM0, hS0⟩ := Bk.more H0.out hx0.out hl0.out hf0.out h1 hB hg hat; have hM := Aside0.mk (hM0.under (below_drew1 (Below.refl _ _))); have hS := Aside0.mk hS0; have hatP := Aside0.mk hat; have hb1 := (hg.block g (blk_lt H0.out.bp.blk) (fun e => row_ne H0.out.bp.rp H0.out.bp.blk e.symm)).trans H0.out.bp.blk; have e8 : w1.cell? ⟨g, 6, none⟩ = some (.slice AP k capP) := (blk_cell hb1 6).trans rfl; have z8 := blk_frozen hb1 6; clear h1 hB hg hat hM0 hS0 hb1)
  have e9 := hM.out.bp.cellQ
  have e8 := hM.out.bp.cellP
  have hxd := hM.out.bp.ov k (Nat.lt_succ_self k)
  rw [snoc_at, snoc_at] at hxd
  have hC := Aside0.mk ((Kd.R_reads' hxd).2.2)
  have hl1 := Aside0.mk (show bywashbook_copyFrames.f xs = some xs from by unfold bywashbook_copyFrames.f; rw [if_pos (by simp only [List.length_nil]; have := hl0.out; omega)]; rfl)
  have hS := Aside0.mk (show Stays w (w1.setCell ⟨g, 6, none⟩ (.slice A1 (k + 1) cap1)).drew g (.slice AP k capP) (.slice AQ k capQ) from hS.out)
  clear hxd z8
  refine start_ (n := 12) (S := (fun w' => w'.cell? ⟨g, 7, none⟩ = some (.slice AQ k capQ) ∧ w'.cell? ⟨g, 6, none⟩ = some (.slice A1 (k + 1) cap1))) (ds := [11]) #[false, false, false, false, false, false, false, false, false, false, false, false] (by kernel_rfl) rfl rfl (⟨e9, e8⟩) (fun hHeld => ?_)
  refine with_tabW tabr13_2 bitsr13_2 (fun HT_ HW_ => ?_)
  generalize (w1.setCell ⟨g, 6, none⟩ (.slice A1 (k + 1) cap1)).drew = w2 at hM hS hC hHeld ⊢
  refine pure_ (i := 0) (N := some 20) (v := ?_) (a' := ?_) #[true, false, false, false, false, false, false, false, false, false, false, false] rfl rfl (any_of HT_.out (by kernel_rfl)) (fun _ _ _ h => h) (Or.inl ⟨by rfl, ?_⟩) ?_ ?_
  rotate_left
  · intro w'
    go_simp
    with_reducible rfl
  rotate_left
  · simp only [Act.put, List.setIfInBounds_toArray, List.set_cons_zero, List.set_cons_succ, i64_w, i32_w]
    rfl
  refine pure_ (i := 1) (N := some 21) (v := ?_) (a' := ?_) #[true, true, false, false, false, false, false, false, false, false, false, false] rfl rfl (any_of HT_.out (by kernel_rfl)) (fun _ _ _ h => h) (Or.inl ⟨by rfl, ?_⟩) ?_ ?_
  rotate_left
  · intro w'
    go_simp
    with_reducible rfl
  rotate_left
  · simp only [Act.put, List.setIfInBounds_toArray, List.set_cons_zero, List.set_cons_succ, i64_w, i32_w]
    rfl
  refine pure_ (i := 2) (N := some 22) (v := ?_) (a' := ?_) #[true, true, true, false, false, false, false, false, false, false, false, false] rfl rfl (any_of HT_.out (by kernel_rfl)) (fun _ _ _ h => h) (Or.inl ⟨by rfl, ?_⟩) ?_ ?_
  rotate_left
  · intro w'
    go_simp
    with_reducible rfl
  rotate_left
  · simp only [Act.put, List.setIfInBounds_toArray, List.set_cons_zero, List.set_cons_succ, i64_w, i32_w]
    rfl
  refine pure_ (i := 3) (N := some 23) (v := ?_) (a' := ?_) #[true, true, true, true, false, false, false, false, false, false, false, false] rfl rfl (any_of HT_.out (by kernel_rfl)) (fun _ _ _ h => h) (Or.inl ⟨by rfl, ?_⟩) ?_ ?_
  rotate_left
  · intro w'
    go_simp
    with_reducible rfl
  rotate_left
  · simp only [Act.put, List.setIfInBounds_toArray, List.set_cons_zero, List.set_cons_succ, i64_w, i32_w]
    rfl
  refine pure_ (i := 5) (N := some 25) (v := ?_) (a' := ?_) #[true, true, true, true, false, true, false, false, false, false, false, false] rfl rfl (any_of HT_.out (by kernel_rfl)) (fun _ _ _ h => h) (Or.inl ⟨by rfl, ?_⟩) ?_ ?_
  rotate_left
  · intro w'
    go_simp
    with_reducible rfl
  rotate_left
  · simp only [Act.put, List.setIfInBounds_toArray, List.set_cons_zero, List.set_cons_succ, i64_w, i32_w]
    rfl
  refine take_ (i := 4) (N := some 24) (v := ?_) (a' := ?_) #[true, true, true, true, true, true, false, false, false, false, false, false] rfl rfl (take_ofW HT_.out HW_.out (by kernel_rfl)) (fun _ _ _ h => h) (Or.inl ⟨by rfl, ?_⟩) hHeld ?_ ?_
  rotate_left
  · rintro w' ⟨s0, s1⟩
    go_simp
    with_reducible rfl
  rotate_left
  · simp only [Act.put, List.setIfInBounds_toArray, List.set_cons_zero, List.set_cons_succ, i64_w, i32_w]
    rfl
  refine one_ (i := 6) (N := some 26) #[true, true, true, true, true, true, true, false, false, false, false, false] rfl rfl (one_of HT_.out (by kernel_rfl)) (by decide) (fun K hK => ?_)
  refine goes_ Try.func21 (by kernel_rfl) rfl #[.slice A xs.length cp] (by rfl) rfl rfl (by (try simp only [List.map_toArray, List.map_cons, List.map_nil]); first | done | rfl) ?_
  with_reducible refine (bywashbook_copyFrames.calls A cp xs xs _ hC.out hr.out.2.1 hl1.out).mono ?_
  rintro e w3 ⟨y0, rfl, hy, hb⟩
  obtain ⟨Ay, cy, rfl⟩ := Kd.R_slice hy
  refine ⟨_, rfl, ?_⟩
  have hM3 := Aside0.mk (hM.out.under hb)
  have hy3 := Aside0.mk (Own.of hy hM.out.bp.below.size)
  have hS3 := Aside0.mk (hS.out.below hb)
  clear hy hb hM hS hC
  refine hK.out _ _ ⟨hM3.out.bp.cellQ, hM3.out.bp.cellP⟩ (fun hHeld => ?_)
  clear hK K
  refine norm_ (a' := ?_) ?_ ?_
  rotate_left
  · show Act.put _ (some 26) _ = _
    simp only [Act.put, List.setIfInBounds_toArray, List.set_cons_zero, List.set_cons_succ, i64_w, i32_w]
    rfl
  refine one_ (i := 7) (N := some 27) #[true, true, true, true, true, true, true, true, false, false, false, false] rfl rfl (one_of HT_.out (by kernel_rfl)) (by decide) (fun K hK => ?_)
  refine event_step (w1 := w3.alloc (.cells #[.slice Ay xs.length cy] 23)) (v := .slice (some ⟨w3.heap.size, 0, none⟩) 1 1) (by rfl) (by go_simp) ?_
  refine hK.out _ _ ⟨on_alloc hM3.out.bp.cellQ _, on_alloc hM3.out.bp.cellP _⟩ (fun hHeld => ?_)
  clear hK K
  refine norm_ (a' := ?_) ?_ ?_
  rotate_left
  · show Act.put _ (some 27) _ = _
    simp only [Act.put, List.setIfInBounds_toArray, List.set_cons_zero, List.set_cons_succ, i64_w, i32_w]
    rfl
  refine one_ (i := 8) (N := some 28) #[true, true, true, true, true, true, true, true, true, false, false, false] rfl rfl (one_of HT_.out (by kernel_rfl)) (by decide) (fun K hK => ?_)
  refine step_append_cells (w0 := w0) w0.heap.size (by rfl) (.tmp 24) (.tmp 27) 30 23 (.slice none 0 0) 1 24 rfl Try.underlying30 infoL2 rfl (by decide) (by omega) (.slice AQ k capQ) k _ [.slice Ay xs.length cy] rfl rfl rfl (by intro q hq; rw [List.mem_singleton.1 hq]; rfl) hM3.out.rq hM3.out.bp.below hM3.out.bp.below.size (by have := hk0.out; omega) ?_
  intro Q1 w4 h1 hB hg hat
  obtain ⟨hK4, hS4⟩ := Bm.copied hM3.out (y := .slice Ay xs.length cy) (by rw [snoc_at]; exact hy3.out) h1 hB hg hat
  have hK4 := Aside0.mk hK4
  have hS4 := Aside0.mk hS4
  have hb4 := (hg.block g (blk_lt hM3.out.bp.blk) (fun e => row_ne hM3.out.rq hM3.out.bp.blk e.symm)).trans hM3.out.bp.blk
  have e9 : w4.cell? ⟨g, 7, none⟩ = some (.slice AQ k capQ) := (blk_cell hb4 7).trans rfl
  have e8 : w4.cell? ⟨g, 6, none⟩ = some (.slice A1 (k + 1) cap1) := (blk_cell hb4 6).trans rfl
  have z9 := blk_frozen hb4 7
  obtain ⟨A2, cap2, e2⟩ := own_slice h1
  have hatQ := Aside0.mk (show New w (.slice AQ k capQ) Q1 from hat.imp id (fun ⟨b, h1, h2⟩ => ⟨b, h1, Nat.le_trans hS3.out.1 h2⟩))
  clear h1 hB hg hat hb4
  subst e2
  refine hK.out _ _ ⟨e9, e8⟩ (fun hHeld => ?_)
  clear hK K
  refine norm_ (a' := ?_) ?_ ?_
  rotate_left
  · show Act.put _ (some 28) _ = _
    simp only [Act.put, List.setIfInBounds_toArray, List.set_cons_zero, List.set_cons_succ, i64_w, i32_w]
    rfl
  refine pure_ (i := 9) (N := some 29) (v := ?_) (a' := ?_) #[true, true, true, true, true, true, true, true, true, true, false, false] rfl rfl (any_of HT_.out (by kernel_rfl)) (fun _ _ _ h => h) (Or.inl ⟨by rfl, ?_⟩) ?_ ?_
  rotate_left
  · intro w'
    go_simp
    with_reducible rfl
  rotate_left
  · simp only [Act.put, List.setIfInBounds_toArray, List.set_cons_zero, List.set_cons_succ, i64_w, i32_w]
    rfl
  refine pure_ (i := 10) (N := some 30) (v := ?_) (a' := ?_) #[true, true, true, true, true, true, true, true, true, true, true, false] rfl rfl (any_of HT_.out (by kernel_rfl)) (fun _ _ _ h => h) (Or.inl ⟨by rfl, ?_⟩) ?_ ?_
  rotate_left
  · intro w'
    go_simp
    with_reducible rfl
  rotate_left
  · simp only [Act.put, List.setIfInBounds_toArray, List.set_cons_zero, List.set_cons_succ, i64_w, i32_w]
    rfl
  refine last_ (i := 11) (N := none) #[true, true, true, true, true, true, true, true, true, true, true, true] rfl rfl (one_of HT_.out (by kernel_rfl)) (by decide) (fun K hK => ?_)
  refine skip_ (w1 := ?_) (by rfl) rfl ?_ ?_
  rotate_left
  · go_simp
    rfl
  refine hK.out _ _ ?_
  clear hK K
  refine done_ (done_of HT_.out (by kernel_rfl)) ?_
  try go_wp2
  refine bodyPost_end (results_none rfl _ _ _) rfl ?_
  exact ⟨rfl, _, _, _, hK4.out, Stays.then_ hS3.out hS4.out hatP.out, hatP.out, hatQ.out⟩
end Go.Proofs.Ytdonanibfifodaa.Book
