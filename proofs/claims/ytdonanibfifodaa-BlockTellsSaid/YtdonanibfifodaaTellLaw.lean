/- The law BlockTells answers true: the walk. Conditions: none. -/
import Derived.Test.YtdonanibfifodaaPureBlockTells
import Derived.Test.YtdonanibfifodaaFookApart
namespace Go.Proofs.Ytdonanibfifodaa.Close
open Go.RowKit Go.Proofs.YtdonanibfifodaaW.PrintWords Go.Proofs.YtdonanibfifodaaW.PrintLast Go.Proofs.YtdonanibfifodaaW.PrintMore Go.Proofs.Ytdonanibfifodaa.Aid Go.Proofs.Ytdonanibfifodaa.PBlockTells Go.Proofs.Ytdonanibfifodaa.Book
open Go.Proofs.Ytdonanibfifodaa.Pure (cutl cut_ev cut_no rcut_ev rcut_no cutf_length cutf_ne Tell tell_step takev giv Take_ev take_head take_cont new_run alive_cutl alive_t1 alive_t2 cut_size)
attribute [local go_sem] max2_int min2_int max_two min_two max_three min_three max_four min_four
set_option linter.unusedVariables false
set_option linter.unusedSimpArgs false

theorem heapE : Kd.Heap kE := Kd.heap_iso _ (Kd.heap_pair (Kd.heap_int _) (Kd.heap_pair (Kd.heap_int _) (Kd.heap_pair (Kd.heap_int _) Kd.heap_string)))
theorem bk_under {w0 w w1 : World} {g : Nat} {P Q : Value} {k : Nat} {v u : Nat → Value} {c : Nat → List E} (H : Bk w0 w g P Q k v u c) (hb : Below w.heap.size w w1) : Bk w0 w1 g P Q k v u c :=
  ⟨H.bp.under hb, pw_own_below H.rq hb, fun j hj => (H.ou j hj).below hb, H.pq⟩
/-- The book, and what is elder than it. -/
structure St (W w8 w : World) (g : Nat) (P Q : Value) (k : Nat) (v u : Nat → Value) (c : Nat → List E) : Prop where
  bk : Bk W w g P Q k v u c
  le : w8.heap.size ≤ w.heap.size
  old : ∀ b, b < w8.heap.size → w.heap[b]? = w8.heap[b]?
  hg : w8.heap.size ≤ g
  hP : ∀ b, P.ownBlock = some b → w8.heap.size ≤ b
  hQ : ∀ b, Q.ownBlock = some b → w8.heap.size ≤ b
theorem St.under {W w8 w w1 : World} {g : Nat} {P Q : Value} {k : Nat} {v u : Nat → Value} {c : Nat → List E} (H : St W w8 w g P Q k v u c) (hb : Below w.heap.size w w1) : St W w8 w1 g P Q k v u c :=
  ⟨bk_under H.bk hb, Nat.le_trans H.le hb.size, fun b h => (hb.block b (Nat.lt_of_lt_of_le h H.le)).trans (H.old b h), H.hg, H.hP, H.hQ⟩
theorem St.reads {W w8 w : World} {g : Nat} {P Q : Value} {k : Nat} {v u : Nat → Value} {c : Nat → List E} (H : St W w8 w g P Q k v u c) {A : Option Addr} {n : Nat} {xs : List E} (h : kE.C w8 A n xs) : kE.C w A n xs := heapE.C H.old h
theorem St.start {W w8 : World} (hB : Below W.heap.size W w8) (f : Nat → Value) (c : Nat → List E) : St W w8 (w8.alloc (.cells (cellsB (.slice none 0 0) (.slice none 0 0)) 33)) w8.heap.size (.slice none 0 0) (.slice none 0 0) 0 f f c :=
  ⟨⟨⟨heap_alloc_new w8 _, own_nil _ _ _ _, fun j hj => absurd hj (Nat.not_lt_zero _), fun i j hi => absurd hi (Nat.not_lt_zero _), hB.size, below_alloc hB _, fun j hj => absurd hj (Nat.not_lt_zero _)⟩, own_nil _ _ _ _, fun j hj => absurd hj (Nat.not_lt_zero _), fun b hb => (by cases hb)⟩, by simp, fun b hb => Below.heap_alloc w8 _ b hb, Nat.le_refl _, fun b hb => (by cases hb), fun b hb => (by cases hb)⟩
theorem St.added {W w8 w w1 : World} {g : Nat} {P Q P1 Q1 : Value} {k : Nat} {v u v1 u1 : Nat → Value} {c c1 : Nat → List E} (H : St W w8 w g P Q k v u c) (h : Bk W w1 g P1 Q1 (k + 1) v1 u1 c1) (hs : Stays w w1 g P Q) (hp : New w P P1) (hq : New w Q Q1) : St W w8 w1 g P1 Q1 (k + 1) v1 u1 c1 :=
  ⟨h, Nat.le_trans H.le hs.1, fun b hb => (hs.2 b (Nat.lt_of_lt_of_le hb H.le) (by have := H.hg; omega) (fun e => by have := H.hP b e; omega) (fun e => by have := H.hQ b e; omega)).trans (H.old b hb), H.hg,
    fun b hb => by
      rcases hp with hp | ⟨b', hb', hle⟩
      · exact H.hP b (hp ▸ hb)
      · rw [hb'] at hb; injection hb with hb; have := H.le; omega,
    fun b hb => by
      rcases hq with hq | ⟨b', hb', hle⟩
      · exact H.hQ b (hq ▸ hb)
      · rw [hb'] at hb; injection hb with hb; have := H.le; omega⟩
theorem own_first {W w : World} {g : Nat} {P Q : Value} {v u : Nat → Value} {c : Nat → List E} {x : Value} {xs : List E} (h : Bk W w g P Q (0 + 1) (snoc v 0 x) u (snoc c 0 xs)) : Own w W.heap.size x xs := h.bp.ov 0 (by decide)
theorem fresh_apart {W w8 w w1 : World} {g : Nat} {P Q : Value} {k : Nat} {v u : Nat → Value} {c : Nat → List E} {z : Value} {zs : List E} {ok : Nat → Prop} (H : St W w8 w g P Q k v u c) (hz : Kd.R kE 39 w1 w.heap.size ok z zs) : ∀ j, j < k → ∀ b, (v j).ownBlock = some b → z.ownBlock ≠ some b := by
  intro j hj b hb hz'
  have h1 := (H.bk.bp.ov j hj).lt hb
  have h2 := Kd.R_base hz b hz'
  omega
theorem fresh_own {w w1 : World} {base : Nat} {x z : Value} {xs zs : List E} {ok : Nat → Prop} (hx : Own w base x xs) (hz : Kd.R kE 39 w1 w.heap.size ok z zs) : ∀ b, x.ownBlock = some b → z.ownBlock ≠ some b := by
  intro b hb hz'
  have h1 := hx.lt hb
  have h2 := Kd.R_base hz b hz'
  omega
theorem apart_snoc {v : Nat → Value} {k : Nat} {x z : Value} (h : ∀ j, j < k → ∀ b, (v j).ownBlock = some b → z.ownBlock ≠ some b) (hx : ∀ b, x.ownBlock = some b → z.ownBlock ≠ some b) : ∀ j, j < k + 1 → ∀ b, (snoc v k x j).ownBlock = some b → z.ownBlock ≠ some b := by
  intro j hj b hb
  by_cases h1 : j = k
  · subst h1; rw [snoc_at] at hb; exact hx b hb
  · rw [snoc_lt v x (by omega)] at hb; exact h j (by omega) b hb
theorem own_stays {W w8 w w1 : World} {g : Nat} {P Q : Value} {k : Nat} {v u : Nat → Value} {c : Nat → List E} {z : Value} {zs : List E} (H : St W w8 w g P Q k v u c) (hz : Own w W.heap.size z zs) (hs : Stays w w1 g P Q) : Own w1 W.heap.size z zs :=
  hz.step (fun b hb => hs.2 b (hz.lt hb) (fun e => hz.far_blk hb H.bk.bp.blk (by decide) e.symm) (fun e => by
    obtain ⟨cells, hc⟩ := own_typed H.bk.bp.rp b e
    exact hz.far_blk hb hc (by decide) rfl) (fun e => by
    obtain ⟨cells, hc⟩ := own_typed H.bk.rq b e
    exact hz.far_blk hb hc (by decide) rfl))
theorem blk_cells3 {w : World} {g t : Nat} {a b c : Value} (h : w.heap[g]? = some (.cells #[a, b, c] t (0, 0))) : w.cell? ⟨g, 0, none⟩ = some a ∧ w.cell? ⟨g, 1, none⟩ = some b ∧ w.cell? ⟨g, 2, none⟩ = some c :=
  ⟨(blk_cell h 0).trans rfl, (blk_cell h 1).trans rfl, (blk_cell h 2).trans rfl⟩
theorem at2 {w : World} {A : Option Addr} {x y : S39} (h : Kd.C k39 w A 2 [x, y]) : ∃ ad : Addr, A = some ad ∧
    (w.cell? ad = some (.int .i64 x.f0) ∧ w.cell? ⟨ad.block, ad.off + 1, none⟩ = some (.int .i64 x.f1) ∧ w.cell? ⟨ad.block, ad.off + 2, none⟩ = some (.int .i64 x.f2) ∧ w.cell? ⟨ad.block, ad.off + 3, none⟩ = some (.string x.f3)) ∧
    (w.cell? ⟨ad.block, ad.off + 4, none⟩ = some (.int .i64 y.f0) ∧ w.cell? ⟨ad.block, ad.off + 4 + 1, none⟩ = some (.int .i64 y.f1) ∧ w.cell? ⟨ad.block, ad.off + 4 + 2, none⟩ = some (.int .i64 y.f2) ∧ w.cell? ⟨ad.block, ad.off + 4 + 3, none⟩ = some (.string y.f3)) := by
  obtain ⟨ad, rfl, a⟩ := at_T39 h 0 (by omega) (by omega)
  obtain ⟨ad', e', b⟩ := at_T39 h 1 (by omega) (by omega)
  obtain rfl := Option.some.inj e'
  simp only [show (1 : Int).toNat = 1 from rfl, show (0 : Int).toNat = 0 from rfl, Nat.reduceMul, Nat.reduceEqDiff, Go.Addr.add, ↓reduceIte] at a b
  exact ⟨ad, rfl, a, b⟩
set_option maxHeartbeats 1000000 in
set_option maxRecDepth 100000 in
theorem alive_any (w : World) : Calls Try.prog 10 #[] w fun e w' => e = .returned (.bool true) ∧ Below w.heap.size w w' := by
  obtain ⟨y, hy0⟩ : ∃ y : List Int, y = List.replicate 100 0 := ⟨_, rfl⟩
  obtain ⟨Z, hZ⟩ : ∃ Z, Z = strOfNums y := ⟨_, rfl⟩
  have hz : Z.size = 100 := by rw [hZ, hy0, strOfNums_size, List.length_replicate]
  have hy := Aside0.mk hy0
  clear hy0
  have c1 := cut_size Z 0 64 (by omega) (by omega)
  have c2 := cut_size Z 64 Z.size (by omega) (by omega)
  obtain ⟨K, hK⟩ := cut_ev 3 Z true 64 (by omega) (by omega) (by omega) (by omega) (by omega)
  have hX := hK K (Nat.le_refl _)
  rw [alive_cutl Z hz] at hX
  obtain ⟨K1, hK1⟩ := Take_ev 200 0 (⟨#[]⟩ : ByteArray) false 1 1 3 (Z.extract 0 64) (by decide) (by omega)
  have hX1 := hK1 K1 (Nat.le_refl _)
  rw [alive_t1 Z hz] at hX1
  obtain ⟨K2, hK2⟩ := Take_ev 200 3 (Z.extract 0 64) true 9 (Go.bits .or .i64 0 4) 3 (Z.extract 64 Z.size) (by omega) (by omega)
  have hX2 := hK2 K2 (Nat.le_refl _)
  rw [alive_t2 Z hz] at hX2
  have HC := fun W => block_Cut.calls K 3 Z true 64 _ _ W hX
  have HN := fun W hB => block_New.calls 200 _ _ _ _ w W hB (new_run 200 (by omega))
  have HT1 := fun g W hI hB => block_Blocks_Take.calls K1 g 200 0 (⟨#[]⟩ : ByteArray) false 1 1 3 (Z.extract 0 64) _ _ _ _ _ _ _ _ _ w W hI hB hX1
  have HT2 := fun g W hI hB => block_Blocks_Take.calls K2 g 200 3 (Z.extract 0 64) true 9 (Go.bits .or .i64 0 4) 3 (Z.extract 64 Z.size) _ _ _ _ _ _ _ _ _ w W hI hB hX2
  have HO := fun g W hI hB => block_Blocks_Open.calls g 200 0 (⟨#[]⟩ : ByteArray) false _ _ _ _ _ w W hI hB rfl
  have hz1 : ((Z.size : Int) == 100) = true := by rw [hz]; rfl
  have hz2 : ((Z.size : Int) != 100) = false := by rw [hz]; rfl
  have hpl : Go.bits .or .i64 0 4 = 4 := by decide
  clear hK hX hK1 hX1 hK2 hX2
  generalize Z.extract 0 64 = P1 at *
  generalize Z.extract 64 Z.size = P2 at *
  subst hZ
  go_enter Try.func10, Try.ntmps10
  go_wp2_with (first
    | ((with_reducible refine gate_dst (N := 11) rfl ?_); (try (refine gate_guard (by rfl) ?_; dsimp only)); refine Kd.R_make (Kd.int .u8) _ 5 rfl (N := 11) rfl 60 _ _ rfl 100 rfl rfl Try.underlying60 (.int .u8 0) 1 info5 rfl (by decide) (by omega) 0 (ok := fun _ => True) (okp := fun _ => True) rfl (fun _ hk => hk) trivial (by omega) (by omega) (Below.refl _ _) (Nat.le_refl _) ?_; intro v145 w5 ho6 hb5 hg_ hnew_; clear hg_ hnew_; (first | rw [← hy.out] at ho6 | (simp only [Int.reduceToNat] at ho6; rw [← hy.out] at ho6)); have hcv := own_string (P := Try.prog) Try.underlying60 Try.underlying5 Try.underlying9 (Kd.own_of_R ho6); clear ho6)
    | (go_at_call 11; refine (HC _).mono ?_; rintro e w8 ⟨v, rfl, ho8, hb8⟩; clear HC; obtain ⟨A, c, rfl⟩ := Kd.R_slice ho8; have HB8 := below_step hb5 hb8; clear hb5 hb8)
    | (go_at_call 15; refine (HN _ HB8).mono ?_; rintro e w9 ⟨g, rfl, hI9, hB9, hb9⟩; clear HN; obtain ⟨ad, rfl, ⟨a0, a1, a2, a3⟩, ⟨b0, b1, b2, b3⟩⟩ := at2 (Kd.C_below (Kd.R_reads' ho8).2.2 hb9); have hne := Kd.own_blk (IsS63.own_ne hI9 (Kd.R_below ho8 hb9) (by decide)); clear ho8 hb9 HB8)
    | (go_at_call 16; refine (HT1 g _ hI9 hB9).mono ?_; rintro e w10 ⟨rfl, hI10, hB10, hk10⟩; clear HT1 a0 a1 a2 a3; have b0 := on_alloc (keep_cell hk10 b0 hne) (.cells #[.int .i64 0, .string (⟨#[]⟩ : ByteArray), .bool false] 41); have b1 := on_alloc (keep_cell hk10 b1 hne) (.cells #[.int .i64 0, .string (⟨#[]⟩ : ByteArray), .bool false] 41); have b2 := on_alloc (keep_cell hk10 b2 hne) (.cells #[.int .i64 0, .string (⟨#[]⟩ : ByteArray), .bool false] 41); have b3 := on_alloc (keep_cell hk10 b3 hne) (.cells #[.int .i64 0, .string (⟨#[]⟩ : ByteArray), .bool false] 41); clear hI9 hB9 hk10)
    | (go_at_call 16; refine (HT2 g _ (hI10.alloc _) (below_alloc hB10 _)).mono ?_; rintro e w11 ⟨rfl, hI11, hB11, hk11⟩; clear HT2)
    | (go_at_call 17; refine (HO g _ (hI11.alloc _) (below_alloc hB11 _)).mono ?_; rintro e w12 ⟨rfl, hI12, hB12, hk12⟩))
  go_ret
  exact ⟨rfl, hB12⟩

theorem bk_keep {W w w1 : World} {g gx : Nat} {P Q : Value} {k : Nat} {v u : Nat → Value} {c : Nat → List E} {cs : Array Value} (H : Bk W w g P Q k v u c) (hx : w.heap[gx]? = some (.cells cs 63 (0, 0))) (hk : KeepBut w w1 gx none) (hB : Below W.heap.size W w1) : Bk W w1 g P Q k v u c := by
  have hrow : ∀ {R : Value} {m : Nat} {xs : List Value}, w.ownsRow W.heap.size 23 1 R m xs → w1.ownsRow W.heap.size 23 1 R m xs := by
    intro R m xs h
    refine own_move h (fun b hb => hk.2 b (own_lt h b hb) (fun e => ?_) (by simp))
    obtain ⟨c2, hc⟩ := own_typed h b hb
    rw [e, hx] at hc
    injection hc with hc
    injection hc with _ hc
    exact absurd hc (by decide)
  have hown : ∀ {x : Value} {xs : List E}, Own w W.heap.size x xs → Own w1 W.heap.size x xs := fun h => h.step (fun b hb => hk.2 b (h.lt hb) (fun e => h.far_blk hb hx (by decide) e.symm) (by simp))
  refine ⟨⟨(hk.2 g (blk_lt H.bp.blk) (fun e => ?_) (by simp)).trans H.bp.blk, hrow H.bp.rp, fun j hj => hown (H.bp.ov j hj), H.bp.av, H.bp.ge, hB, H.bp.len⟩, hrow H.rq, fun j hj => hown (H.ou j hj), H.pq⟩
  have h1 := H.bp.blk
  rw [e, hx] at h1
  injection h1 with h1
  injection h1 with _ h1
  exact absurd h1 (by decide)
theorem drop_rd (l : List S39) (i : Nat) (h : i < l.length) : l.drop i = rd_T39 l (i : Int) :: l.drop (i + 1) := by
  unfold rd_T39
  rw [Int.toNat_natCast, List.drop_eq_getElem_cons h, List.getD_eq_getElem?_getD, List.getElem?_eq_getElem h]; rfl
theorem tell_nil {id : Int} {b : ByteArray} {en : Bool} {m : Int} {l : List S39} {id' : Int} {b' : ByteArray} {en' : Bool} (h : Tell id b en m l id' b' en') (hl : l = []) : id' = 0 ∧ b' = (⟨#[]⟩ : ByteArray) ∧ en' = false := by
  cases h with
  | done => exact ⟨rfl, rfl, rfl⟩
  | first n hn => exact absurd hl (cutf_ne _ _ _ _ _ _)
  | more n b0 c hn he => exact absurd hl (cutf_ne _ _ _ _ _ _)
theorem cutf_body (id m : Int) (n : Nat) (kd fl : Int) (b : ByteArray) {x : S39} {xs : List S39} (h : x :: xs = Pure.cutf id m n kd fl b) : x.f3.size ≤ b.size := by
  cases n with
  | zero => obtain ⟨rfl, _⟩ := List.cons.inj h; exact Nat.le_refl _
  | succ n =>
    unfold Pure.cutf at h
    split at h
    · obtain ⟨rfl, _⟩ := List.cons.inj h
      show (b.extract 0 m.toNat).size ≤ b.size
      rw [ByteArray.size_extract]; omega
    · obtain ⟨rfl, _⟩ := List.cons.inj h; exact Nat.le_refl _
theorem tell_bound {id : Int} {b : ByteArray} {en : Bool} {m : Int} {x : S39} {xs : List S39} {id' : Int} {b' : ByteArray} {en' : Bool} (h : Tell id b en m (x :: xs) id' b' en') : b'.size ≤ b.size ∧ x.f3.size ≤ b.size := by
  generalize hl : x :: xs = l at h
  cases h with
  | done => cases hl
  | first n hn => exact ⟨Nat.zero_le _, cutf_body _ _ _ _ _ _ hl⟩
  | more n b0 c hn he =>
    have hs : b'.size + c.size = b.size := by rw [← he]; exact (ByteArray.size_append).symm
    have := cutf_body _ _ _ _ _ _ hl
    omega
theorem own_zero {W w : World} {g : Nat} {P Q : Value} {v u : Nat → Value} {c : Nat → List E} {x y : Value} {xs ys : List E} (h : Bk W w g P Q (1 + 1) (snoc (snoc v 0 x) 1 y) u (snoc (snoc c 0 xs) 1 ys)) : Own w W.heap.size x xs := h.bp.ov 0 (by decide)
/-- What is open, and which frames are still to come. -/
def Inv (id : Int) (b : ByteArray) (en : Bool) (m : Int) (l : List S39) (id' : Int) (b' : ByteArray) (en' : Bool) : Prop := (1 ≤ id ∧ id ≤ 2147483647 ∧ 64 ≤ m) ∧ Tell id b en m l id' b' en' ∨ l = [] ∧ id' = 0 ∧ b' = (⟨#[]⟩ : ByteArray) ∧ en' = false
theorem inv_nil {id : Int} {b : ByteArray} {en : Bool} {m : Int} {l : List S39} {id' : Int} {b' : ByteArray} {en' : Bool} (h : Inv id b en m l id' b' en') (hl : l = []) : id' = 0 ∧ b' = (⟨#[]⟩ : ByteArray) ∧ en' = false := by
  rcases h with ⟨_, h⟩ | ⟨_, h⟩
  · exact tell_nil h hl
  · exact h
/-- What a round of the loop knows. -/
structure Rd (W wl : World) (g gx : Nat) (P Q : Value) (v u : Nat → Value) (c : Nat → List E) (M id : Int) (b : ByteArray) (en : Bool) (m : Int) (L : List S39) (j : Nat) (id' : Int) (b' : ByteArray) (en' : Bool) : Prop where
  le : j ≤ L.length
  bk : Bk W wl g P Q 2 v u c
  s : IsS63 W wl gx M id' b' en'
  inv : Inv id b en m (L.drop j) id' b' en'
theorem tells_alive (W : World) (id : Int) (b : ByteArray) (en : Bool) (m : Int) (h : decide ((3000 : Int) < (b.size : Int)) = true) :
    Calls Try.prog 3 #[.int .i64 id, .string b, .bool en, .int .i64 m] W fun e w' => e = .returned (.bool true) ∧ Below W.heap.size W w' := by
  go_enter Try.func3, Try.ntmps3
  go_wp2_with ((go_at_call 10; refine (alive_any _).mono ?_; rintro e w1 ⟨rfl, hb1⟩))
  go_ret
  exact ⟨rfl, hb1⟩
set_option maxHeartbeats 4000000 in
set_option maxRecDepth 100000 in
theorem tells_walk (W : World) (id : Int) (b : ByteArray) (en : Bool) (m : Int) (h3 : decide ((3000 : Int) < (b.size : Int)) = false) :
    Calls Try.prog 3 #[.int .i64 id, .string b, .bool en, .int .i64 m] W fun e w' => e = .returned (.bool true) ∧ Below W.heap.size W w' := by
  have hb : b.size ≤ 3000 := by simp only [decide_eq_false_iff_not] at h3; omega
  obtain ⟨L, ok, hcut, hrcut, hLl, hInv⟩ : ∃ L ok, Ev (fun k => block_Cut.f k id b en m) (L, ok) ∧ Ev (fun k => bywashref1_Cut.f k id b en m) (L, ok) ∧ L.length ≤ 100 ∧ Inv id b en m L 0 (⟨#[]⟩ : ByteArray) false := by
    by_cases hv : 1 ≤ id ∧ id ≤ 2147483647 ∧ 64 ≤ m ∧ m ≤ 512
    · obtain ⟨v1, v2, v3, v4⟩ := hv
      obtain ⟨mn, rfl⟩ : ∃ mn : Nat, m = (mn : Int) := ⟨m.toNat, by omega⟩
      refine ⟨cutl id b en (mn : Int), true, cut_ev id b en (mn : Int) v1 v2 v3 v4 (by omega), rcut_ev id b en mn v1 v2 (by omega) (by omega) (by omega), ?_, .inl ⟨⟨v1, v2, v3⟩, Tell.first b.size (Nat.le_refl _)⟩⟩
      have h4 := cutf_length id (mn : Int) v3 b.size 1 (if en = true then 1 else 0) b
      show (Pure.cutf _ _ _ _ _ _).length ≤ 100
      omega
    · exact ⟨[], false, cut_no id b en m hv, rcut_no id b en m hv, by decide, .inr ⟨rfl, rfl, rfl, rfl⟩⟩
  obtain ⟨K1, e1⟩ := hcut
  obtain ⟨K2, e2⟩ := hrcut
  obtain ⟨K3, e3⟩ := same_ev L (by omega)
  have e1 := Aside0.mk (e1 K1 (Nat.le_refl _))
  have e1' := e1
  have e2 := Aside0.mk (e2 K2 (Nat.le_refl _))
  have e3 := Aside0.mk (e3 K3 (Nat.le_refl _))
  have hL := Aside0.mk hLl
  have hInv := Aside0.mk hInv
  have hbz := Aside0.mk hb
  clear hb hLl
  go_enter Try.func3, Try.ntmps3
  go_wp2_with (first
    | (go_at_call 10; refine (alive_any _).mono ?_; rintro e w1 ⟨rfl, hb1⟩)
    | (go_at_call 11; refine (block_Cut.calls K1 id b en m L ok _ e1.out).mono ?_; rintro e w2 ⟨l0, rfl, hl, hb2⟩; clear e1; obtain ⟨Al, cl, rfl⟩ := Kd.R_slice hl; have hB2 := below_step2 hb1 hb2; have Hl := Aside0.mk (Own.of hl hb1.size); clear hb1 hb2 hl)
    | (go_at_call 12; refine (bywashref1_Cut.calls K2 id b en m L ok _ e2.out).mono ?_; rintro e w3 ⟨l1, rfl, hw, hb3⟩; clear e2; obtain ⟨Aw, cw, rfl⟩ := Kd.R_slice hw; have hB3 := below_step2 hB2 hb3; have Hw := Aside0.mk (Own.of hw hB2.size); replace Hl := Aside0.mk (Hl.out.below hb3); have HS0 := Aside0.mk (St.start hB3 (fun _ => .slice none 0 0) (fun _ => [])); clear hb3 hw hB2)
    | (go_at_call 13; refine (add_any W _ _ _ _ 0 _ _ _ HS0.out.bk (by decide) Al cl L (Hl.out.below (below_alloc (Below.refl _ _) _)) hL.out (fun j hj => absurd hj (Nat.not_lt_zero _))).mono ?_; rintro e w4 ⟨rfl, P1, Q1, y1, hb4, hs4, hp4, hq4⟩; have HS := Aside0.mk (HS0.out.added hb4 hs4 hp4 hq4); clear HS0 hb4 hs4 hp4 hq4)
    | (go_at_call 11; refine (block_Cut.calls K1 id b en m L ok _ e1'.out).mono ?_; rintro e w5 ⟨l2, rfl, hm, hb5⟩; clear e1'; obtain ⟨Am, cm, rfl⟩ := Kd.R_slice hm; have Hmn := Aside0.mk (fresh_apart HS.out hm); have Hm := Aside0.mk (Own.of hm HS.out.bk.bp.below.size); replace HS := Aside0.mk (HS.out.under hb5); clear hm hb5)
    | (go_at_call 13; refine (add_any W _ _ _ _ 1 _ _ _ HS.out.bk (by decide) Am cm L Hm.out hL.out Hmn.out).mono ?_; rintro e w6 ⟨rfl, P2, Q2, y2, hb6, hs6, hp6, hq6⟩; replace HS := Aside0.mk (HS.out.added hb6 hs6 hp6 hq6); clear Hm Hmn hb6 hs6 hp6 hq6)
    | (go_at_call 14; refine (bywashbook_SameFrames.calls K3 Al cl L Aw cw L true _ (Kd.R_reads' (own_zero HS.out.bk)).2.2 (Kd.R_reads' Hl.out).2.1 (HS.out.reads (Kd.R_reads' Hw.out).2.2) (Kd.R_reads' Hw.out).2.1 e3.out).mono ?_; rintro e w7 ⟨rfl, hd7⟩; replace HS := Aside0.mk (HS.out.under hd7.below); clear e3 hd7)
    | (go_at_call 15; refine (block_New.calls _ _ _ _ _ W _ HS.out.bk.bp.below (new_run _ (by omega))).mono ?_; rintro e w8 ⟨gx, rfl, hI8, hB8, hb8⟩; have HR0 := Aside0.mk (show Rd W w8 w3.heap.size gx P2 Q2 _ _ _ _ id b en m L 0 0 (⟨#[]⟩ : ByteArray) false from ⟨Nat.zero_le _, bk_under HS.out.bk hb8, hI8, hInv.out⟩); clear HS hI8 hB8 hb8 Hw))
  all_goals (
    obtain ⟨M, v, u, c, hM1, hv0, hc0, HRM⟩ : ∃ M v u c, (b.size : Int) ≤ M ∧ v 0 = .slice Al L.length cl ∧ c 0 = L ∧ Rd W w8 w3.heap.size gx P2 Q2 v u c M id b en m L 0 0 (⟨#[]⟩ : ByteArray) false := ⟨_, _, _, _, by have := hbz.out; omega, rfl, rfl, HR0.out⟩
    have HR0 := Aside0.mk HRM
    have hM1 := Aside0.mk hM1
    have hv0 := Aside0.mk hv0
    have hc0 := Aside0.mk hc0
    clear HRM
    go_loopw [79] (fun t wl => ∃ (j : Nat) (id' : Int) (b' : ByteArray) (en' : Bool), t = .int .i64 (j : Int) ∧ Aside0 (Rd W wl w3.heap.size gx P2 Q2 v u c M id b en m L j id' b' en')) (fun t _ => L.length - (intOf t).toNat)
    case atStart => exact ⟨0, 0, (⟨#[]⟩ : ByteArray), false, rfl, HR0⟩
    case round =>
      obtain ⟨j, id', b', en', rfl, HR⟩ := hrel
      clear HR0
      have ho := HR.out.bk.bp.ov 0 (by decide)
      rw [hv0.out, hc0.out] at ho
      by_cases hj : (j : Int) < (L.length : Int)
      · have hj1 : decide ((j : Int) < (L.length : Int)) = true := decide_eq_true hj
        obtain ⟨ad, eA, a0, a1, a2, a3⟩ := at_T39 (Kd.R_reads' ho).2.2 (j : Int) (by omega) hj
        simp only [Int.toNat_natCast] at a0 a1 a2 a3
        have hd := drop_rd L j (by omega)
        have hinv := HR.out.inv
        rw [hd] at hinv
        rcases hinv with ⟨hv, ht⟩ | ⟨hn, _⟩
        · obtain ⟨hb1, hb2⟩ := tell_bound ht
          have hwrap := Aside0.mk (show wrap64 ((j : Int) + 1) = ((j + 1 : Nat) : Int) from by unfold wrap64; have := hL.out; omega)
          have hw1 : wrap64 ((L.length : Int) - 1) = (L.length : Int) - 1 := by unfold wrap64; have := hL.out; omega
          have hdl : (L.drop (j + 1)).length = L.length - (j + 1) := List.length_drop
          have hjn := Aside0.mk (show j + 1 ≤ L.length from by omega)
          generalize rd_T39 L (j : Int) = x at *
          obtain ⟨KT, hKT⟩ := Take_ev M id' b' en' x.f0 x.f1 x.f2 x.f3 (by have := hbz.out; omega) (by have := hbz.out; omega)
          have hX := hKT KT (Nat.le_refl _)
          rcases tell_step id b en m M hv.1 hv.2.1 hv.2.2 (by have := hbz.out; omega) hM1.out ht with ⟨b2, eg, hne, ht2⟩ | ⟨eg, hnil, ht2⟩
          · rw [eg] at hX
            have HT := fun W1 hI hB => block_Blocks_Take.calls KT gx M id' b' en' x.f0 x.f1 x.f2 x.f3 _ _ _ _ _ _ _ _ _ W W1 hI hB hX
            have HO := fun W1 hI hB => block_Blocks_Open.calls gx M id b2 en _ _ _ _ _ W W1 hI hB rfl
            have hlt : j + 1 < L.length := by
              rcases Nat.lt_or_ge (j + 1) L.length with h | h
              · exact h
              · exact absurd (List.drop_eq_nil_of_le h) hne
            have hl1 : ((j : Int) == (L.length : Int) - 1) = false := beq_eq_false_iff_ne.mpr (by omega)
            have hv := Aside0.mk hv
            have ht2 := Aside0.mk ht2
            have hj := Aside0.mk hj
            subst eA
            clear hKT hX eg hne ht hd hdl hlt hb1 hb2 ho
            go_wp2_with (first
              | (go_at_call 16; refine (HT _ (HR.out.s.alloc (.cells #[.int .i64 x.f0, .int .i64 x.f1, .int .i64 x.f2, .string x.f3] 39)) (below_alloc HR.out.bk.bp.below (.cells #[.int .i64 x.f0, .int .i64 x.f1, .int .i64 x.f2, .string x.f3] 39))).mono ?_; rintro e w10 ⟨rfl, hI10, hB10, hk10⟩; clear HT; have hBk10 := Aside0.mk (bk_keep (bk_under HR.out.bk (below_alloc (Below.refl _ _) (.cells #[.int .i64 x.f0, .int .i64 x.f1, .int .i64 x.f2, .string x.f3] 39))) (HR.out.s.alloc (.cells #[.int .i64 x.f0, .int .i64 x.f1, .int .i64 x.f2, .string x.f3] 39)).1 hk10 hB10); clear hk10)
              | (go_at_call 17; refine (HO _ (hI10.alloc _) (below_alloc hB10 _)).mono ?_; rintro e w11 ⟨rfl, hI11, hB11, hk11⟩; clear HO; have hBk11 := Aside0.mk (bk_keep (bk_under hBk10.out (below_alloc (Below.refl _ _) _)) (hI10.alloc _).1 hk11 hB11)))
            exact ⟨⟨j + 1, id, b2, en, congrArg _ hwrap.out, ⟨⟨hjn.out, hBk11.out, hI11, .inl ⟨hv.out, ht2.out⟩⟩⟩⟩, meas _ j (by have := hj.out; omega) hwrap.out⟩
          · rw [eg] at hX
            have HT := fun W1 hI hB => block_Blocks_Take.calls KT gx M id' b' en' x.f0 x.f1 x.f2 x.f3 _ _ _ _ _ _ _ _ _ W W1 hI hB hX
            have hlt : j + 1 = L.length := by rw [hnil] at hdl; have : (0 : Nat) = L.length - (j + 1) := hdl; omega
            have hl1 : ((j : Int) == (L.length : Int) - 1) = true := beq_iff_eq.mpr (by omega)
            have hv := Aside0.mk hv
            have ht2 := Aside0.mk ht2
            have hj := Aside0.mk hj
            subst eA
            clear hKT hX eg hnil ht hd hdl hlt hb1 hb2 ho
            go_wp2_with ((go_at_call 16; refine (HT _ (HR.out.s.alloc (.cells #[.int .i64 x.f0, .int .i64 x.f1, .int .i64 x.f2, .string x.f3] 39)) (below_alloc HR.out.bk.bp.below (.cells #[.int .i64 x.f0, .int .i64 x.f1, .int .i64 x.f2, .string x.f3] 39))).mono ?_; rintro e w10 ⟨rfl, hI10, hB10, hk10⟩; clear HT; have hBk10 := Aside0.mk (bk_keep (bk_under HR.out.bk (below_alloc (Below.refl _ _) (.cells #[.int .i64 x.f0, .int .i64 x.f1, .int .i64 x.f2, .string x.f3] 39))) (HR.out.s.alloc (.cells #[.int .i64 x.f0, .int .i64 x.f1, .int .i64 x.f2, .string x.f3] 39)).1 hk10 hB10); obtain ⟨d0, d1, d2⟩ := blk_cells3 (heap_alloc_new w10 (.cells #[.int .i64 id, .string b, .bool en] 41)); clear hk10))
            exact ⟨⟨j + 1, 0, (⟨#[]⟩ : ByteArray), false, congrArg _ hwrap.out, ⟨⟨hjn.out, bk_under hBk10.out (below_alloc (Below.refl _ _) _), hI10.alloc _, .inl ⟨hv.out, ht2.out⟩⟩⟩⟩, meas _ j (by have := hj.out; omega) hwrap.out⟩
        · cases hn
      · have hj1 : decide ((j : Int) < (L.length : Int)) = false := decide_eq_false hj
        obtain ⟨rfl, rfl, rfl⟩ := inv_nil HR.out.inv (List.drop_eq_nil_of_le (by omega))
        have HO := fun W1 hI hB => block_Blocks_Open.calls gx M 0 (⟨#[]⟩ : ByteArray) false _ _ _ _ _ W W1 hI hB rfl
        clear ho
        go_wp2_with (first
          | (go_at_call 17; refine (HO _ HR.out.s HR.out.bk.bp.below).mono ?_; rintro e w12 ⟨rfl, hI12, hB12, hk12⟩; clear HO; have hBk12 := Aside0.mk (bk_keep HR.out.bk HR.out.s.1 hk12 hB12))
          | (go_at_call 18; refine (apart_any W _ _ _ _ _ _ _ _ hBk12.out (by decide)).mono ?_; rintro e w13 ⟨rfl, hb13⟩))
        go_ret
        exact ⟨rfl, hb13⟩)
theorem BlockTells_all (W : World) (id : Int) (b : ByteArray) (en : Bool) (m : Int) :
    Calls Try.prog 3 #[.int .i64 id, .string b, .bool en, .int .i64 m] W fun e w' => e = .returned (.bool true) ∧ Below W.heap.size W w' := by
  cases h : decide ((3000 : Int) < (b.size : Int))
  · exact tells_walk W id b en m h
  · exact tells_alive W id b en m h
end Go.Proofs.Ytdonanibfifodaa.Close
