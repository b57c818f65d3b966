/- The law PrefsTells answers true: the walk. Conditions: none. -/
import Derived.Test.YtfeihaoppahmnaaPurePrefsTells
import Derived.Test.YtfeihaoppahmnaaBookApart
import Derived.Test.YtfeihaoppahmnaaPrefLent
namespace Go.Proofs.Ytfeihaoppahmnaa.Close
open Go.RowKit Go.Proofs.YtfeihaoppahmnaaW.PrintWords Go.Proofs.YtfeihaoppahmnaaW.PrintLast Go.Proofs.YtfeihaoppahmnaaW.PrintMore Go.Proofs.Ytfeihaoppahmnaa.Aid Go.Proofs.Ytfeihaoppahmnaa.PPrefsTells Go.Proofs.Ytfeihaoppahmnaa.Book
open Go.Proofs.Ytfeihaoppahmnaa.Pure (okP putV getV mineV applyv flat putV_ev rput_ev getV_ev rget_ev mineV_ev rmine_ev apply_ev rapply_ev getV_put getV_length alive_ev)
set_option linter.unusedVariables false
set_option linter.unusedSimpArgs false

theorem heapE : Kd.Heap kE := Kd.heap_iso _ (Kd.heap_pair (Kd.heap_int _) (Kd.heap_int _))
theorem bk_under {w0 w w1 : World} {g : Nat} {P Q : Value} {k : Nat} {v u : Nat → Value} {c : Nat → List E} (H : Bk w0 w g P Q k v u c) (hb : Below w.heap.size w w1) : Bk w0 w1 g P Q k v u c :=
  ⟨H.bp.under hb, pw_own_below H.rq hb, fun j hj => (H.ou j hj).below hb, H.pq⟩
/-- The book, and what is elder than it. -/
structure St (W w8 w : World) (g : Nat) (P Q : Value) (k : Nat) (v u : Nat → Value) (c : Nat → List E) : Prop where
  bk : Bk W w g P Q k v u c
  le : w8.heap.size ≤ w.heap.size
  old : ∀ b, b < w8.heap.size → w.heap[b]? = w8.heap[b]?
  hg : w8.heap.size ≤ g
  hP : ∀ b, P.ownBlock = some b → w8.heap.size ≤ b
  hQ : ∀ b, Q.ownBlock = some b → w8.heap.size ≤ b
theorem St.under {W w8 w w1 : World} {g : Nat} {P Q : Value} {k : Nat} {v u : Nat → Value} {c : Nat → List E} (H : St W w8 w g P Q k v u c) (hb : Below w.heap.size w w1) : St W w8 w1 g P Q k v u c :=
  ⟨bk_under H.bk hb, Nat.le_trans H.le hb.size, fun b h => (hb.block b (Nat.lt_of_lt_of_le h H.le)).trans (H.old b h), H.hg, H.hP, H.hQ⟩
theorem St.reads {W w8 w : World} {g : Nat} {P Q : Value} {k : Nat} {v u : Nat → Value} {c : Nat → List E} (H : St W w8 w g P Q k v u c) {A : Option Addr} {n : Nat} {xs : List E} (h : kE.C w8 A n xs) : kE.C w A n xs := heapE.C H.old h
theorem St.start {W w8 : World} (hB : Below W.heap.size W w8) (f : Nat → Value) (c : Nat → List E) : St W w8 (w8.alloc (.cells (cellsB (.slice none 0 0) (.slice none 0 0)) 38)) w8.heap.size (.slice none 0 0) (.slice none 0 0) 0 f f c :=
  ⟨⟨⟨heap_alloc_new w8 _, own_nil _ _ _ _, fun j hj => absurd hj (Nat.not_lt_zero _), fun i j hi => absurd hi (Nat.not_lt_zero _), hB.size, below_alloc hB _, fun j hj => absurd hj (Nat.not_lt_zero _)⟩, own_nil _ _ _ _, fun j hj => absurd hj (Nat.not_lt_zero _), fun b hb => (by cases hb)⟩, by simp, fun b hb => Below.heap_alloc w8 _ b hb, Nat.le_refl _, fun b hb => (by cases hb), fun b hb => (by cases hb)⟩
theorem St.added {W w8 w w1 : World} {g : Nat} {P Q P1 Q1 : Value} {k : Nat} {v u v1 u1 : Nat → Value} {c c1 : Nat → List E} (H : St W w8 w g P Q k v u c) (h : Bk W w1 g P1 Q1 (k + 1) v1 u1 c1) (hs : Stays w w1 g P Q) (hp : New w P P1) (hq : New w Q Q1) : St W w8 w1 g P1 Q1 (k + 1) v1 u1 c1 :=
  ⟨h, Nat.le_trans H.le hs.1, fun b hb => (hs.2 b (Nat.lt_of_lt_of_le hb H.le) (by have := H.hg; omega) (fun e => by have := H.hP b e; omega) (fun e => by have := H.hQ b e; omega)).trans (H.old b hb), H.hg,
    fun b hb => by
      rcases hp with hp | ⟨b', hb', hle⟩
      · exact H.hP b (hp ▸ hb)
      · rw [hb'] at hb; injection hb with hb; have := H.le; omega,
    fun b hb => by
      rcases hq with hq | ⟨b', hb', hle⟩
      · exact H.hQ b (hq ▸ hb)
      · rw [hb'] at hb; injection hb with hb; have := H.le; omega⟩
theorem own_first {W w : World} {g : Nat} {P Q : Value} {v u : Nat → Value} {c : Nat → List E} {x : Value} {xs : List E} (h : Bk W w g P Q (0 + 1) (snoc v 0 x) u (snoc c 0 xs)) : Own w W.heap.size x xs := h.bp.ov 0 (by decide)
theorem own_second {W w : World} {g : Nat} {P Q : Value} {v u : Nat → Value} {c : Nat → List E} {x y : Value} {xs ys : List E} (h : Bk W w g P Q (2 + 1) (snoc (snoc v 1 x) 2 y) u (snoc (snoc c 1 xs) 2 ys)) : Own w W.heap.size x xs := h.bp.ov 1 (by decide)
theorem fresh_apart {W w8 w w1 : World} {g : Nat} {P Q : Value} {k : Nat} {v u : Nat → Value} {c : Nat → List E} {z : Value} {zs : List E} {ok : Nat → Prop} (H : St W w8 w g P Q k v u c) (hz : Kd.R kE 48 w1 w.heap.size ok z zs) : ∀ j, j < k → ∀ b, (v j).ownBlock = some b → z.ownBlock ≠ some b := by
  intro j hj b hb hz'
  have h1 := (H.bk.bp.ov j hj).lt hb
  have h2 := Kd.R_base hz b hz'
  omega
theorem fresh_own {w w1 : World} {base : Nat} {x z : Value} {xs zs : List E} {ok : Nat → Prop} (hx : Own w base x xs) (hz : Kd.R kE 48 w1 w.heap.size ok z zs) : ∀ b, x.ownBlock = some b → z.ownBlock ≠ some b := by
  intro b hb hz'
  have h1 := hx.lt hb
  have h2 := Kd.R_base hz b hz'
  omega
theorem apart_snoc {v : Nat → Value} {k : Nat} {x z : Value} (h : ∀ j, j < k → ∀ b, (v j).ownBlock = some b → z.ownBlock ≠ some b) (hx : ∀ b, x.ownBlock = some b → z.ownBlock ≠ some b) : ∀ j, j < k + 1 → ∀ b, (snoc v k x j).ownBlock = some b → z.ownBlock ≠ some b := by
  intro j hj b hb
  by_cases h1 : j = k
  · subst h1; rw [snoc_at] at hb; exact hx b hb
  · rw [snoc_lt v x (by omega)] at hb; exact h j (by omega) b hb
theorem own_stays {W w8 w w1 : World} {g : Nat} {P Q : Value} {k : Nat} {v u : Nat → Value} {c : Nat → List E} {z : Value} {zs : List E} (H : St W w8 w g P Q k v u c) (hz : Own w W.heap.size z zs) (hs : Stays w w1 g P Q) : Own w1 W.heap.size z zs :=
  hz.step (fun b hb => hs.2 b (hz.lt hb) (fun e => hz.far_blk hb H.bk.bp.blk (by decide) e.symm) (fun e => by
    obtain ⟨cells, hc⟩ := own_typed H.bk.bp.rp b e
    exact hz.far_blk hb hc (by decide) rfl) (fun e => by
    obtain ⟨cells, hc⟩ := own_typed H.bk.rq b e
    exact hz.far_blk hb hc (by decide) rfl))
/-- What came in, and the lent list. -/
structure Tr (W w2 w : World) : Prop where
  a : Below W.heap.size W w
  b : Below w2.heap.size w2 w
theorem Tr.under {W w2 w w1 : World} (h : Tr W w2 w) (hb : Below w.heap.size w w1) : Tr W w2 w1 := ⟨below_step2 h.a hb, below_step2 h.b hb⟩
theorem alive_any (w : World) : Calls Try.prog 4 #[] w fun e w' => e = .returned (.bool true) ∧ Below w.heap.size w w' := by
  obtain ⟨K, hK⟩ := alive_ev
  exact bywashlaw10_alive.calls K true w (hK K (Nat.le_refl _))
set_option maxRecDepth 100000 in
theorem tells_alive (W : World) (A : Option Addr) (cp n : Nat) (b : ByteArray) (win : Int) (h : decide ((40 : Int) < (n : Int)) = true ∨ (decide ((40 : Int) < (n : Int)) = false ∧ decide ((400 : Int) < (b.size : Int)) = true)) :
    Calls Try.prog 3 #[.slice A n cp, .string b, .int .i64 win] W fun e w' => e = .returned (.bool true) ∧ Below W.heap.size W w' := by
  rcases h with h1 | ⟨h1, h2⟩ <;>
  · go_enter Try.func3, Try.ntmps3
    go_wp2_with ((go_at_call 4; refine (alive_any _).mono ?_; rintro e w1 ⟨rfl, hb1⟩))
    go_ret
    exact ⟨rfl, hb1⟩
theorem blk_cells5 {w : World} {g t : Nat} {a b c d e : Value} (h : w.heap[g]? = some (.cells #[a, b, c, d, e] t (0, 0))) : w.cell? ⟨g, 0, none⟩ = some a ∧ w.cell? ⟨g, 1, none⟩ = some b ∧ w.cell? ⟨g, 2, none⟩ = some c ∧ w.cell? ⟨g, 3, none⟩ = some d ∧ w.cell? ⟨g, 4, none⟩ = some e :=
  ⟨(blk_cell h 0).trans rfl, (blk_cell h 1).trans rfl, (blk_cell h 2).trans rfl, (blk_cell h 3).trans rfl, (blk_cell h 4).trans rfl⟩
def Tr3_29 : Bool × List (List Nat × List Nat) := (true, [([], []), ([0], [0]), ([], []), ([1, 2], [1, 2]), ([3, 1], [3]), ([4], [4]), ([4], [4]), ([5, 6, 4], [4, 5, 6]), ([4, 7], [4, 7]), ([8, 4], [8]), ([9], [9]), ([9], [9]), ([10, 11, 9], [9, 10, 11]), ([9, 12], [9, 12]), ([13, 9], [13]), ([14], [14]), ([15, 14, 14], [14, 15]), ([14, 16], [14, 16]), ([17, 16, 0, 1, 2, 3, 4, 5, 6, 7, 8, 9, 10, 11, 12, 13, 14, 15, 16, 17], [17])])
def Br3_29 : List Nat := [0, 1, 0, 7, 15, 31, 31, 127, 255, 511, 1023, 1023, 4095, 8191, 16383, 32767, 65535, 131071, 262143]
theorem tabr3_29 : rtab .any (opsOf Try.f3 29) = Tr3_29 := by kernel_rfl
theorem bitsr3_29 : waitsOk Tr3_29.2 Br3_29 = true := by kernel_rfl

set_option maxHeartbeats 4000000 in
set_option maxRecDepth 100000 in
theorem tells_walk (W : World) (A : Option Addr) (cp : Nat) (l : List E) (hr : kE.C W A l.length l) (hc : l.length ≤ cp) (b : ByteArray) (win : Int) (h40 : decide ((40 : Int) < (l.length : Int)) = false) (h400 : decide ((400 : Int) < (b.size : Int)) = false) :
    Calls Try.prog 3 #[.slice A l.length cp, .string b, .int .i64 win] W fun e w' => e = .returned (.bool true) ∧ Below W.heap.size W w' := by
  have hL := Aside0.mk (show l.length ≤ 40 by simp only [decide_eq_false_iff_not] at h40; omega)
  have hb := (show b.size ≤ 400 by simp only [decide_eq_false_iff_not] at h400; omega)
  have HC := Aside0.mk hr
  have HCP := Aside0.mk hc
  have hput := putV_ev l (by have := hL.out; omega)
  have hrput := rput_ev l (by have := hL.out; omega)
  have hget := getV_ev b (by omega)
  have hrget := rget_ev b (by omega)
  have hgl := getV_length b
  have hmine := mineV_ev win
  have hrmine := rmine_ev win
  have hps : ∀ S, putV l = (S, true) → Ev (fun k => prefs_Get.f k S) (l, true) := by
    intro S hS
    unfold putV at hS
    by_cases hok : ∀ y ∈ l, okP y
    · rw [if_pos hok] at hS
      injection hS with h1 h2
      have h3 := getV_ev (strOfNums (flat l)) (by have h4 := Pure.nums_size (flat l); have h5 := Pure.flat_length l; have h6 := hL.out; omega)
      rw [getV_put l hok, h1] at h3
      exact h3
    · rw [if_neg hok] at hS
      injection hS with h1 h2
      cases h2
  clear hr hc
  generalize hpe : putV l = pv at *
  generalize getV b = gv at *
  generalize mineV win = mv at *
  obtain ⟨S, ok⟩ := pv
  obtain ⟨X, on⟩ := gv
  obtain ⟨U, pm⟩ := mv
  have hX := Aside0.mk (show X.length ≤ 66 by have : X.length ≤ b.size / 6 := hgl; omega)
  obtain ⟨K1, e1⟩ := hput
  obtain ⟨K2, e2⟩ := hrput
  obtain ⟨K3, e3⟩ := hget
  obtain ⟨K4, e4⟩ := hrget
  obtain ⟨K5, e5⟩ := hmine
  obtain ⟨K6, e6⟩ := hrmine
  obtain ⟨K7, e7⟩ := same_ev X (by have := hX.out; omega)
  have e1 := Aside0.mk (e1 K1 (Nat.le_refl _))
  have e2 := Aside0.mk (e2 K2 (Nat.le_refl _))
  have e3 := Aside0.mk (e3 K3 (Nat.le_refl _))
  have e4 := Aside0.mk (e4 K4 (Nat.le_refl _))
  have e5 := Aside0.mk (e5 K5 (Nat.le_refl _))
  have e6 := Aside0.mk (e6 K6 (Nat.le_refl _))
  have e7 := Aside0.mk (e7 K7 (Nat.le_refl _))
  have hps := Aside0.mk (fun h => hps S (by rw [h]) : ok = true → Ev (fun k => prefs_Get.f k S) (l, true))
  clear hgl hb hpe
  cases ok
  · clear hps
    go_enter Try.func3, Try.ntmps3
    go_wp2_with (first
      | (go_at_call 4; refine (alive_any _).mono ?_; rintro e w1 ⟨rfl, hb1⟩)
      | (go_at_call 5; refine (lent_any _ A cp l (Kd.C_below HC.out hb1) HCP.out (by have := hL.out; omega)).mono ?_; rintro e w2 ⟨Am, cm, rfl, hcm, hCm, hb2⟩; have HT2 := Aside0.mk (show Tr W w2 w2 from ⟨below_step2 hb1 hb2, Below.refl _ _⟩); have Hcm := Aside0.mk hcm; have HM := Aside0.mk hCm; clear hb1 hb2 hcm hCm)
      | (go_at_call 6; refine (prefs_Put.calls K1 Am cm l S _ _ (head_C HM.out) (by have := Hcm.out; omega) e1.out).mono ?_; rintro e w3 ⟨rfl, hb3⟩; have HT3 := Aside0.mk (HT2.out.under hb3); clear e1 HT2 hb3)
      | (go_at_call 7; refine (bywashref1_PrefsPut.calls K2 A cp l S _ _ (Kd.C_below HC.out HT3.out.a) HCP.out e2.out).mono ?_; rintro e w4 ⟨rfl, hb4⟩; have HT4 := Aside0.mk (HT3.out.under hb4); clear e2 HT3 hb4)
      | (go_at_call 8; refine (prefs_Get.calls K3 b X on _ e3.out).mono ?_; rintro e w5 ⟨x, rfl, hx5, hb5⟩; have HT5 := Aside0.mk (HT4.out.under hb5); obtain ⟨Ax, cx, rfl⟩ := Kd.R_slice hx5; have Hx5 := Aside0.mk (Own.of hx5 HT4.out.a.size); clear e3 HT4 hb5 hx5)
      | (go_at_call 9; refine (bywashref1_PrefsGet.calls K4 b X on _ e4.out).mono ?_; rintro e w6 ⟨y, rfl, hy6, hb6⟩; have HT6 := Aside0.mk (HT5.out.under hb6); obtain ⟨Ay, cy, rfl⟩ := Kd.R_slice hy6; have Hx6 := Aside0.mk (Hx5.out.below hb6); have Hy6 := Aside0.mk (Own.of hy6 HT5.out.a.size); clear e4 HT5 Hx5 hb6 hy6)
      | (go_at_call 10; refine (prefs_Mine.calls K5 win U pm _ e5.out).mono ?_; rintro e w7 ⟨rfl, hb7⟩; have HT7 := Aside0.mk (HT6.out.under hb7); have Hx7 := Aside0.mk (Hx6.out.below hb7); have Hy7 := Aside0.mk (Hy6.out.below hb7); clear e5 HT6 Hx6 Hy6 hb7)
      | (go_at_call 11; refine (bywashref1_Mine.calls K6 win U pm _ e6.out).mono ?_; rintro e w8 ⟨rfl, hb8⟩; have HT8 := Aside0.mk (HT7.out.under hb8); have Hx8 := Aside0.mk (Hx7.out.below hb8); have Hy8 := Aside0.mk (Hy7.out.below hb8); have HS8 := Aside0.mk (St.start HT8.out.a (fun _ => .slice none 0 0) (fun _ => [])); clear e6 HT7 Hx7 Hy7 hb8)
      | (go_at_call 12; refine (add_any W _ _ _ _ 0 _ _ _ HS8.out.bk (by decide) Ax cx X (Hx8.out.below (below_alloc (Below.refl _ _) _)) (by have := hX.out; omega) (fun j hj => absurd hj (Nat.not_lt_zero _))).mono ?_; rintro e w9 ⟨rfl, P1, Q1, y1, hb9, hs9, hp9, hq9⟩; have HS := Aside0.mk (HS8.out.added hb9 hs9 hp9 hq9); clear HS8 hb9 hs9 hp9 hq9)
      | (go_at_call 13; refine (bywashbook_SamePrefs.calls K7 Ax cx X Ay cy X true _ (Kd.R_reads' (own_first HS.out.bk)).2.2 (Kd.R_reads' Hx8.out).2.1 (HS.out.reads (Kd.R_reads' Hy8.out).2.2) (Kd.R_reads' Hy8.out).2.1 e7.out).mono ?_; rintro e w10 ⟨rfl, hd10⟩; replace HS := Aside0.mk (HS.out.under hd10.below); clear e7 hd10)
      | (go_at_call 15; refine (prefs_First.calls 128 6 100 64 600 _ rfl).mono ?_; rintro e w11 ⟨rfl, hb11⟩; replace HS := Aside0.mk (HS.out.under hb11); clear hb11)
      | (go_at_call 14; refine (bywashlaw10_Ref.calls 128 6 100 64 600 128 6 100 64 600 _ rfl).mono ?_; rintro e w11 ⟨rfl, hb11⟩; replace HS := Aside0.mk (HS.out.under hb11); clear hb11)
      | (go_at_call 16; refine (bywashref1_First.calls 128 6 100 64 600 _ rfl).mono ?_; rintro e w11 ⟨rfl, hb11⟩; replace HS := Aside0.mk (HS.out.under hb11); clear hb11)
      | (go_at_call 17; refine (stays_any _ Am cm A cp l Hcm.out (HS.out.reads (Kd.C_below HM.out HT8.out.b)) (HS.out.reads (Kd.C_below HC.out HT8.out.a)) HCP.out (by have := hL.out; omega)).mono ?_; rintro e w12 ⟨rfl, hd12⟩; replace HS := Aside0.mk (HS.out.under hd12.below); clear hd12))
    have HE := Aside0.mk (show ∃ P Q k v u c, k ≤ 10 ∧ St W w8 _ w8.heap.size P Q k v u c from ⟨_, _, _, _, _, _, by decide, HS.out⟩)
    clear HS
    go_loopw [151] (fun t wl => ∃ (i : Nat), t = .int .i64 (i : Int) ∧ Aside0 (i ≤ l.length ∧ ∃ P Q k v u c, k ≤ 10 ∧ St W w8 wl w8.heap.size P Q k v u c)) (fun t _ => l.length - (intOf t).toNat)
    case atStart => exact ⟨0, rfl, ⟨⟨Nat.zero_le _, HE.out⟩⟩⟩
    case round =>
      obtain ⟨i, rfl, HR⟩ := hrel
      clear HE
      obtain ⟨P, Q, k, v, u, c, hk, hS⟩ := HR.out.2
      have HS := Aside0.mk hS
      have hk := Aside0.mk hk
      by_cases hi : (i : Int) < (l.length : Int)
      · have hi1 : decide ((i : Int) < (l.length : Int)) = true := decide_eq_true hi
        obtain ⟨ad, eA, a0, a1⟩ := at_T48 HC.out (i : Int) (by omega) hi
        simp only [Int.toNat_natCast] at a0 a1
        have hbl := hS.bk.bp.below
        have f0 := (hbl.cell (cell_lt a0)).trans a0
        have f1 := (hbl.cell (cell_lt a1)).trans a1
        have hwrap := Aside0.mk (show wrap64 ((i : Int) + 1) = ((i + 1 : Nat) : Int) from by unfold wrap64; have := hL.out; omega)
        have hi := Aside0.mk hi
        subst eA
        clear a0 a1 hbl hS
        generalize rd_T48 l (i : Int) = x at *
        by_cases hn : x.f1 < 0
        · have hn1 : decide (x.f1 < 0) = true := decide_eq_true hn
          go_wp2_with ((go_at_call 18; refine (apart_any W _ _ _ _ _ _ _ _ (HS.out.under (below_alloc (Below.refl _ _) _)).bk hk.out).mono ?_; rintro e w20 ⟨rfl, hb20⟩))
          go_ret
          exact ⟨rfl, hb20⟩
        · have hn1 : decide (x.f1 < 0) = false := decide_eq_false hn
          go_wp2
          exact ⟨⟨i + 1, congrArg _ hwrap.out, ⟨⟨by have := hi.out; omega, P, Q, k, v, u, c, hk.out, HS.out.under (below_alloc (Below.refl _ _) _)⟩⟩⟩, meas _ i (by have := hi.out; omega) hwrap.out⟩
      · have hi1 : decide ((i : Int) < (l.length : Int)) = false := decide_eq_false hi
        clear hS
        obtain ⟨r1, r2, r3, r4, r5, r6, r7, hap⟩ : ∃ r1 r2 r3 r4 r5 r6 r7, applyv (128, 6, 100, 64, 600) (128, 6, 100, 64, 600) l = (r1, r2, r3, r4, r5, r6, r7) := ⟨_, _, _, _, _, _, _, rfl⟩
        obtain ⟨K11, e11⟩ := apply_ev (128, 6, 100, 64, 600) l (by have := hL.out; omega)
        obtain ⟨K12, e12⟩ := rapply_ev (128, 6, 100, 64, 600) l (by have := hL.out; omega)
        have e11 := e11 K11 (Nat.le_refl _)
        have e12 := e12 K12 (Nat.le_refl _)
        rw [hap] at e11 e12
        have e11 := Aside0.mk e11
        have e12 := Aside0.mk e12
        clear hap
        go_wp2_with (first
          | (go_at_call 15; refine (prefs_First.calls 128 6 100 64 600 _ rfl).mono ?_; rintro e w21 ⟨rfl, hb21⟩; replace HS := Aside0.mk (HS.out.under hb21); clear hb21)
          | (go_at_call 19; refine (prefs_Apply.calls K11 128 6 100 64 600 Am cm l r1 r2 r3 r4 r5 r6 r7 _ (HS.out.reads (Kd.C_below (head_C HM.out) HT8.out.b)) (by have := Hcm.out; omega) e11.out).mono ?_; rintro e w22 ⟨rfl, hb22⟩; have HS1 := Aside0.mk ((HS.out.under hb22).under (below_alloc (Below.refl _ _) (.cells #[.int .i64 r1, .int .i64 r2, .int .i64 r3, .int .i64 r4, .int .i64 r5] 44))); have hb1 := Aside0.mk (heap_alloc_new w22 (.cells #[.int .i64 r1, .int .i64 r2, .int .i64 r3, .int .i64 r4, .int .i64 r5] 44)); clear HS hb22)
          | (go_at_call 16; refine (bywashref1_First.calls 128 6 100 64 600 _ rfl).mono ?_; rintro e w23 ⟨rfl, hb23⟩; replace HS1 := Aside0.mk (HS1.out.under hb23); replace hb1 := Aside0.mk ((hb23.block _ (blk_lt hb1.out)).trans hb1.out); clear hb23)
          | (go_at_call 20; refine (bywashref1_Apply.calls K12 128 6 100 64 600 _ cp l r1 r2 r3 r4 r5 r6 r7 _ (HS1.out.reads (Kd.C_below HC.out HT8.out.a)) HCP.out e12.out).mono ?_; rintro e w24 ⟨rfl, hb24⟩; have HS2 := Aside0.mk ((HS1.out.under hb24).under (below_alloc (Below.refl _ _) (.cells #[.int .i64 r1, .int .i64 r2, .int .i64 r3, .int .i64 r4, .int .i64 r5] 42))); have hb2 := Aside0.mk (heap_alloc_new w24 (.cells #[.int .i64 r1, .int .i64 r2, .int .i64 r3, .int .i64 r4, .int .i64 r5] 42)); replace hb1 := Aside0.mk ((Below.heap_alloc _ (.cells #[.int .i64 r1, .int .i64 r2, .int .i64 r3, .int .i64 r4, .int .i64 r5] 42) _ (Nat.lt_of_lt_of_le (blk_lt hb1.out) hb24.size)).trans ((hb24.block _ (blk_lt hb1.out)).trans hb1.out)); clear HS1 hb24))
        have HSd := Aside0.mk (HS2.out.under (below_drew1 (Below.refl _ _)))
        have B1 := Aside0.mk (blk_drew hb1.out)
        have B2 := Aside0.mk (blk_drew hb2.out)
        obtain ⟨c0, c1, c2, c3, c4⟩ := blk_cells5 B1.out
        obtain ⟨d0, d1, d2, d3, d4⟩ := blk_cells5 B2.out
        clear HS2 hb1 hb2
        refine start_ (n := 19) (S := (fun w' => w'.cell? ⟨w22.heap.size, 0, none⟩ = some (.int .i64 r1) ∧ w'.cell? ⟨w22.heap.size, 1, none⟩ = some (.int .i64 r2) ∧ w'.cell? ⟨w22.heap.size, 2, none⟩ = some (.int .i64 r3) ∧ w'.cell? ⟨w22.heap.size, 3, none⟩ = some (.int .i64 r4) ∧ w'.cell? ⟨w22.heap.size, 4, none⟩ = some (.int .i64 r5) ∧ w'.cell? ⟨w24.heap.size, 0, none⟩ = some (.int .i64 r1) ∧ w'.cell? ⟨w24.heap.size, 1, none⟩ = some (.int .i64 r2) ∧ w'.cell? ⟨w24.heap.size, 2, none⟩ = some (.int .i64 r3) ∧ w'.cell? ⟨w24.heap.size, 3, none⟩ = some (.int .i64 r4) ∧ w'.cell? ⟨w24.heap.size, 4, none⟩ = some (.int .i64 r5))) (ds := [16]) #[false, false, false, false, false, false, false, false, false, false, false, false, false, false, false, false, false, false, false] (by kernel_rfl) rfl rfl (⟨c0, c1, c2, c3, c4, d0, d1, d2, d3, d4⟩) (fun hHeld => ?_)
        refine with_tabW tabr3_29 bitsr3_29 (fun HT_ HW_ => ?_)
        generalize (w24.alloc (.cells #[.int .i64 r1, .int .i64 r2, .int .i64 r3, .int .i64 r4, .int .i64 r5] 42)).drew = w25 at HSd B1 B2 hHeld ⊢
        refine take_ (i := 0) (N := some 175) (v := ?_) (a' := ?_) #[true, false, false, false, false, false, false, false, false, false, false, false, false, false, false, false, false, false, false] rfl rfl (take_ofW HT_.out HW_.out (by kernel_rfl)) (fun _ _ _ h => h) (Or.inl ⟨by rfl, ?_⟩) hHeld ?_ ?_
        rotate_left
        · rintro w' ⟨s0, s1, s2, s3, s4, s5, s6, s7, s8, s9⟩
          go_simp
          with_reducible rfl
        rotate_left
        · simp only [Act.put, List.setIfInBounds_toArray, List.set_cons_zero, List.set_cons_succ, i64_w, i32_w]
          rfl
        refine take_ (i := 2) (N := some 177) (v := ?_) (a' := ?_) #[true, false, true, false, false, false, false, false, false, false, false, false, false, false, false, false, false, false, false] rfl rfl (take_ofW HT_.out HW_.out (by kernel_rfl)) (fun _ _ _ h => h) (Or.inl ⟨by rfl, ?_⟩) hHeld ?_ ?_
        rotate_left
        · rintro w' ⟨s0, s1, s2, s3, s4, s5, s6, s7, s8, s9⟩
          go_simp
          with_reducible rfl
        rotate_left
        · simp only [Act.put, List.setIfInBounds_toArray, List.set_cons_zero, List.set_cons_succ, i64_w, i32_w]
          rfl
        refine one_ (i := 1) (N := some 176) #[true, true, true, false, false, false, false, false, false, false, false, false, false, false, false, false, false, false, false] rfl rfl (one_of HT_.out (by kernel_rfl)) (by decide) (fun K hK => ?_)
        refine goes_ Try.func14 (by kernel_rfl) rfl #[.agg #[.int .i64 r1, .int .i64 r2, .int .i64 r3, .int .i64 r4, .int .i64 r5]] (by rfl) rfl rfl (by (try simp only [List.map_toArray, List.map_cons, List.map_nil]); first | done | rfl) ?_
        with_reducible refine (bywashlaw10_Ref.calls r1 r2 r3 r4 r5 r1 r2 r3 r4 r5 _ rfl).mono ?_
        rintro e w26 ⟨rfl, hb26⟩
        refine ⟨_, rfl, ?_⟩
        have HS3 := Aside0.mk (HSd.out.under hb26)
        obtain ⟨c0, c1, c2, c3, c4⟩ := blk_cells5 ((hb26.block _ (blk_lt B1.out)).trans B1.out)
        obtain ⟨d0, d1, d2, d3, d4⟩ := blk_cells5 ((hb26.block _ (blk_lt B2.out)).trans B2.out)
        refine hK.out _ _ ⟨c0, c1, c2, c3, c4, d0, d1, d2, d3, d4⟩ (fun hHeld => ?_)
        clear hK K hb26
        refine norm_ (a' := ?_) ?_ ?_
        rotate_left
        · show Act.put _ (some 176) _ = _
          simp only [Act.put, List.setIfInBounds_toArray, List.set_cons_zero, List.set_cons_succ, i64_w, i32_w]
          rfl
        refine pure_ (i := 3) (N := some 178) (v := ?_) (a' := ?_) #[true, true, true, true, false, false, false, false, false, false, false, false, false, false, false, false, false, false, false] rfl rfl (any_of HT_.out (by kernel_rfl)) (fun _ _ _ h => h) (Or.inl ⟨by rfl, ?_⟩) ?_ ?_
        rotate_left
        · intro w'
          go_simp
          with_reducible rfl
        rotate_left
        · simp only [Act.put, List.setIfInBounds_toArray, List.set_cons_zero, List.set_cons_succ, i64_w, i32_w]
          rfl
        refine pure_ (i := 4) (N := some 179) (v := ?_) (a' := ?_) #[true, true, true, true, true, false, false, false, false, false, false, false, false, false, false, false, false, false, false] rfl rfl (any_of HT_.out (by kernel_rfl)) (fun _ _ _ h => h) (Or.inl ⟨by rfl, ?_⟩) ?_ ?_
        rotate_left
        · intro w'
          go_simp
          with_reducible rfl
        rotate_left
        · simp only [Act.put, List.setIfInBounds_toArray, List.set_cons_zero, List.set_cons_succ, i64_w, i32_w]
          rfl
        refine pure_ (i := 5) (N := some 180) (v := ?_) (a' := ?_) #[true, true, true, true, true, true, false, false, false, false, false, false, false, false, false, false, false, false, false] rfl rfl (any_of HT_.out (by kernel_rfl)) (fun _ _ _ h => h) (Or.inl ⟨by rfl, ?_⟩) ?_ ?_
        rotate_left
        · intro w'
          go_simp
          with_reducible rfl
        rotate_left
        · simp only [Act.put, List.setIfInBounds_toArray, List.set_cons_zero, List.set_cons_succ, i64_w, i32_w]
          rfl
        refine pure_ (i := 6) (N := some 181) (v := ?_) (a' := ?_) #[true, true, true, true, true, true, true, false, false, false, false, false, false, false, false, false, false, false, false] rfl rfl (any_of HT_.out (by kernel_rfl)) (fun _ _ _ h => h) (Or.inl ⟨by rfl, ?_⟩) ?_ ?_
        rotate_left
        · intro w'
          go_simp
          with_reducible rfl
        rotate_left
        · simp only [Act.put, List.setIfInBounds_toArray, List.set_cons_zero, List.set_cons_succ, i64_w, i32_w]
          rfl
        refine pure_ (i := 7) (N := some 182) (v := ?_) (a' := ?_) #[true, true, true, true, true, true, true, true, false, false, false, false, false, false, false, false, false, false, false] rfl rfl (any_of HT_.out (by kernel_rfl)) (fun _ _ _ h => h) (Or.inl ⟨by rfl, ?_⟩) ?_ ?_
        rotate_left
        · intro w'
          go_simp
          with_reducible rfl
        rotate_left
        · simp only [Act.put, List.setIfInBounds_toArray, List.set_cons_zero, List.set_cons_succ, i64_w, i32_w]
          rfl
        refine pure_ (i := 8) (N := some 183) (v := ?_) (a' := ?_) #[true, true, true, true, true, true, true, true, true, false, false, false, false, false, false, false, false, false, false] rfl rfl (any_of HT_.out (by kernel_rfl)) (fun _ _ _ h => h) (Or.inl ⟨by rfl, ?_⟩) ?_ ?_
        rotate_left
        · intro w'
          go_simp
          with_reducible rfl
        rotate_left
        · simp only [Act.put, List.setIfInBounds_toArray, List.set_cons_zero, List.set_cons_succ, i64_w, i32_w]
          rfl
        refine pure_ (i := 9) (N := some 184) (v := ?_) (a' := ?_) #[true, true, true, true, true, true, true, true, true, true, false, false, false, false, false, false, false, false, false] rfl rfl (any_of HT_.out (by kernel_rfl)) (fun _ _ _ h => h) (Or.inl ⟨by rfl, ?_⟩) ?_ ?_
        rotate_left
        · intro w'
          go_simp
          with_reducible rfl
        rotate_left
        · simp only [Act.put, List.setIfInBounds_toArray, List.set_cons_zero, List.set_cons_succ, i64_w, i32_w]
          rfl
        refine pure_ (i := 10) (N := some 185) (v := ?_) (a' := ?_) #[true, true, true, true, true, true, true, true, true, true, true, false, false, false, false, false, false, false, false] rfl rfl (any_of HT_.out (by kernel_rfl)) (fun _ _ _ h => h) (Or.inl ⟨by rfl, ?_⟩) ?_ ?_
        rotate_left
        · intro w'
          go_simp
          with_reducible rfl
        rotate_left
        · simp only [Act.put, List.setIfInBounds_toArray, List.set_cons_zero, List.set_cons_succ, i64_w, i32_w]
          rfl
        refine pure_ (i := 11) (N := some 186) (v := ?_) (a' := ?_) #[true, true, true, true, true, true, true, true, true, true, true, true, false, false, false, false, false, false, false] rfl rfl (any_of HT_.out (by kernel_rfl)) (fun _ _ _ h => h) (Or.inl ⟨by rfl, ?_⟩) ?_ ?_
        rotate_left
        · intro w'
          go_simp
          with_reducible rfl
        rotate_left
        · simp only [Act.put, List.setIfInBounds_toArray, List.set_cons_zero, List.set_cons_succ, i64_w, i32_w]
          rfl
        refine pure_ (i := 12) (N := some 187) (v := ?_) (a' := ?_) #[true, true, true, true, true, true, true, true, true, true, true, true, true, false, false, false, false, false, false] rfl rfl (any_of HT_.out (by kernel_rfl)) (fun _ _ _ h => h) (Or.inl ⟨by rfl, ?_⟩) ?_ ?_
        rotate_left
        · intro w'
          go_simp
          with_reducible rfl
        rotate_left
        · simp only [Act.put, List.setIfInBounds_toArray, List.set_cons_zero, List.set_cons_succ, i64_w, i32_w]
          rfl
        refine pure_ (i := 13) (N := some 188) (v := ?_) (a' := ?_) #[true, true, true, true, true, true, true, true, true, true, true, true, true, true, false, false, false, false, false] rfl rfl (any_of HT_.out (by kernel_rfl)) (fun _ _ _ h => h) (Or.inl ⟨by rfl, ?_⟩) ?_ ?_
        rotate_left
        · intro w'
          go_simp
          with_reducible rfl
        rotate_left
        · simp only [Act.put, List.setIfInBounds_toArray, List.set_cons_zero, List.set_cons_succ, i64_w, i32_w]
          rfl
        refine pure_ (i := 14) (N := some 189) (v := ?_) (a' := ?_) #[true, true, true, true, true, true, true, true, true, true, true, true, true, true, true, false, false, false, false] rfl rfl (any_of HT_.out (by kernel_rfl)) (fun _ _ _ h => h) (Or.inl ⟨by rfl, ?_⟩) ?_ ?_
        rotate_left
        · intro w'
          go_simp
          with_reducible rfl
        rotate_left
        · simp only [Act.put, List.setIfInBounds_toArray, List.set_cons_zero, List.set_cons_succ, i64_w, i32_w]
          rfl
        refine pure_ (i := 15) (N := some 190) (v := ?_) (a' := ?_) #[true, true, true, true, true, true, true, true, true, true, true, true, true, true, true, true, false, false, false] rfl rfl (any_of HT_.out (by kernel_rfl)) (fun _ _ _ h => h) (Or.inl ⟨by rfl, ?_⟩) ?_ ?_
        rotate_left
        · intro w'
          go_simp
          with_reducible rfl
        rotate_left
        · simp only [Act.put, List.setIfInBounds_toArray, List.set_cons_zero, List.set_cons_succ, i64_w, i32_w]
          rfl
        refine last_ (i := 16) (N := some 191) #[true, true, true, true, true, true, true, true, true, true, true, true, true, true, true, true, true, false, false] rfl rfl (one_of HT_.out (by kernel_rfl)) (by decide) (fun K hK => ?_)
        refine goes_ Try.func18 (by kernel_rfl) rfl #[.pointer (some ⟨w8.heap.size, 0, none⟩)] (by rfl) rfl rfl (by (try simp only [List.map_toArray, List.map_cons, List.map_nil]); first | done | rfl) ?_
        with_reducible refine (apart_any W _ _ _ _ _ _ _ _ HS3.out.bk hk.out).mono ?_
        rintro e w27 ⟨rfl, hb27⟩
        refine ⟨_, rfl, ?_⟩
        refine hK.out _ _ ?_
        clear hK K
        refine norm_ (a' := ?_) ?_ ?_
        rotate_left
        · show Act.put _ (some 191) _ = _
          simp only [Act.put, List.setIfInBounds_toArray, List.set_cons_zero, List.set_cons_succ, i64_w, i32_w]
          rfl
        refine pure_ (i := 17) (N := some 192) (v := ?_) (a' := ?_) #[true, true, true, true, true, true, true, true, true, true, true, true, true, true, true, true, true, true, false] rfl rfl (any_of HT_.out (by kernel_rfl)) (fun _ _ _ h => h) (Or.inl ⟨by rfl, ?_⟩) ?_ ?_
        rotate_left
        · intro w'
          go_simp
          with_reducible rfl
        rotate_left
        · simp only [Act.put, List.setIfInBounds_toArray, List.set_cons_zero, List.set_cons_succ, i64_w, i32_w]
          rfl
        refine pure_ (i := 18) (N := some 6) (v := ?_) (a' := ?_) #[true, true, true, true, true, true, true, true, true, true, true, true, true, true, true, true, true, true, true] rfl rfl (any_of HT_.out (by kernel_rfl)) (fun _ _ _ h => h) (Or.inl ⟨by rfl, ?_⟩) ?_ ?_
        rotate_left
        · intro w'
          go_simp
          with_reducible rfl
        rotate_left
        · simp only [Act.put, List.setIfInBounds_toArray, List.set_cons_zero, List.set_cons_succ, i64_w, i32_w]
          rfl
        refine done_ (done_of HT_.out (by kernel_rfl)) ?_
        try go_wp2
        go_ret
        exact ⟨rfl, hb27⟩
  · obtain ⟨K8, e8⟩ := hps.out rfl
    have e8 := Aside0.mk (e8 K8 (Nat.le_refl _))
    have e9 := e8
    obtain ⟨K10, e10⟩ := same_ev l (by have := hL.out; omega)
    have e10 := Aside0.mk (e10 K10 (Nat.le_refl _))
    clear hps
    go_enter Try.func3, Try.ntmps3
    go_wp2_with (first
      | (go_at_call 4; refine (alive_any _).mono ?_; rintro e w1 ⟨rfl, hb1⟩)
      | (go_at_call 5; refine (lent_any _ A cp l (Kd.C_below HC.out hb1) HCP.out (by have := hL.out; omega)).mono ?_; rintro e w2 ⟨Am, cm, rfl, hcm, hCm, hb2⟩; have HT2 := Aside0.mk (show Tr W w2 w2 from ⟨below_step2 hb1 hb2, Below.refl _ _⟩); have Hcm := Aside0.mk hcm; have HM := Aside0.mk hCm; clear hb1 hb2 hcm hCm)
      | (go_at_call 6; refine (prefs_Put.calls K1 Am cm l S _ _ (head_C HM.out) (by have := Hcm.out; omega) e1.out).mono ?_; rintro e w3 ⟨rfl, hb3⟩; have HT3 := Aside0.mk (HT2.out.under hb3); clear e1 HT2 hb3)
      | (go_at_call 7; refine (bywashref1_PrefsPut.calls K2 A cp l S _ _ (Kd.C_below HC.out HT3.out.a) HCP.out e2.out).mono ?_; rintro e w4 ⟨rfl, hb4⟩; have HT4 := Aside0.mk (HT3.out.under hb4); clear e2 HT3 hb4)
      | (go_at_call 8; refine (prefs_Get.calls K3 b X on _ e3.out).mono ?_; rintro e w5 ⟨x, rfl, hx5, hb5⟩; have HT5 := Aside0.mk (HT4.out.under hb5); obtain ⟨Ax, cx, rfl⟩ := Kd.R_slice hx5; have Hx5 := Aside0.mk (Own.of hx5 HT4.out.a.size); clear e3 HT4 hb5 hx5)
      | (go_at_call 9; refine (bywashref1_PrefsGet.calls K4 b X on _ e4.out).mono ?_; rintro e w6 ⟨y, rfl, hy6, hb6⟩; have HT6 := Aside0.mk (HT5.out.under hb6); obtain ⟨Ay, cy, rfl⟩ := Kd.R_slice hy6; have Hx6 := Aside0.mk (Hx5.out.below hb6); have Hy6 := Aside0.mk (Own.of hy6 HT5.out.a.size); clear e4 HT5 Hx5 hb6 hy6)
      | (go_at_call 10; refine (prefs_Mine.calls K5 win U pm _ e5.out).mono ?_; rintro e w7 ⟨rfl, hb7⟩; have HT7 := Aside0.mk (HT6.out.under hb7); have Hx7 := Aside0.mk (Hx6.out.below hb7); have Hy7 := Aside0.mk (Hy6.out.below hb7); clear e5 HT6 Hx6 Hy6 hb7)
      | (go_at_call 11; refine (bywashref1_Mine.calls K6 win U pm _ e6.out).mono ?_; rintro e w8 ⟨rfl, hb8⟩; have HT8 := Aside0.mk (HT7.out.under hb8); have Hx8 := Aside0.mk (Hx7.out.below hb8); have Hy8 := Aside0.mk (Hy7.out.below hb8); have HS8 := Aside0.mk (St.start HT8.out.a (fun _ => .slice none 0 0) (fun _ => [])); clear e6 HT7 Hx7 Hy7 hb8)
      | (go_at_call 12; refine (add_any W _ _ _ _ 0 _ _ _ HS8.out.bk (by decide) Ax cx X (Hx8.out.below (below_alloc (Below.refl _ _) _)) (by have := hX.out; omega) (fun j hj => absurd hj (Nat.not_lt_zero _))).mono ?_; rintro e w9 ⟨rfl, P1, Q1, y1, hb9, hs9, hp9, hq9⟩; have HS := Aside0.mk (HS8.out.added hb9 hs9 hp9 hq9); clear HS8 hb9 hs9 hp9 hq9)
      | (go_at_call 13; refine (bywashbook_SamePrefs.calls K7 Ax cx X Ay cy X true _ (Kd.R_reads' (own_first HS.out.bk)).2.2 (Kd.R_reads' Hx8.out).2.1 (HS.out.reads (Kd.R_reads' Hy8.out).2.2) (Kd.R_reads' Hy8.out).2.1 e7.out).mono ?_; rintro e w10 ⟨rfl, hd10⟩; replace HS := Aside0.mk (HS.out.under hd10.below); clear e7 hd10)
      | (go_at_call 15; refine (prefs_First.calls 128 6 100 64 600 _ rfl).mono ?_; rintro e w11 ⟨rfl, hb11⟩; replace HS := Aside0.mk (HS.out.under hb11); clear hb11)
      | (go_at_call 14; refine (bywashlaw10_Ref.calls 128 6 100 64 600 128 6 100 64 600 _ rfl).mono ?_; rintro e w11 ⟨rfl, hb11⟩; replace HS := Aside0.mk (HS.out.under hb11); clear hb11)
      | (go_at_call 16; refine (bywashref1_First.calls 128 6 100 64 600 _ rfl).mono ?_; rintro e w11 ⟨rfl, hb11⟩; replace HS := Aside0.mk (HS.out.under hb11); clear hb11)
      | (go_at_call 17; refine (stays_any _ Am cm A cp l Hcm.out (HS.out.reads (Kd.C_below HM.out HT8.out.b)) (HS.out.reads (Kd.C_below HC.out HT8.out.a)) HCP.out (by have := hL.out; omega)).mono ?_; rintro e w12 ⟨rfl, hd12⟩; replace HS := Aside0.mk (HS.out.under hd12.below); clear hd12)
      | (go_at_call 8; refine (prefs_Get.calls K8 S l true _ e8.out).mono ?_; rintro e w13 ⟨z, rfl, hz, hb13⟩; clear e8; obtain ⟨Az, cz, rfl⟩ := Kd.R_slice hz; have Hzn := Aside0.mk (fresh_apart HS.out hz); have Hz := Aside0.mk (Own.of hz HS.out.bk.bp.below.size); replace HS := Aside0.mk (HS.out.under hb13); clear hz hb13)
      | (go_at_call 8; refine (prefs_Get.calls K8 S l true _ e9.out).mono ?_; rintro e w14 ⟨z, rfl, hz, hb14⟩; clear e9; obtain ⟨Aw, cw, rfl⟩ := Kd.R_slice hz; have Hwn := Aside0.mk (fresh_apart HS.out hz); have Hwz := Aside0.mk (fresh_own Hz.out hz); have Hw := Aside0.mk (Own.of hz HS.out.bk.bp.below.size); replace HS := Aside0.mk (HS.out.under hb14); replace Hz := Aside0.mk (Hz.out.below hb14); clear hz hb14)
      | (go_at_call 12; refine (add_any W _ _ _ _ 1 _ _ _ HS.out.bk (by decide) Az cz l Hz.out (by have := hL.out; omega) Hzn.out).mono ?_; rintro e w15 ⟨rfl, P2, Q2, y2, hb15, hs15, hp15, hq15⟩; have Hw1 := Aside0.mk (own_stays HS.out Hw.out hs15); have Hwn1 := Aside0.mk (apart_snoc Hwn.out Hwz.out); replace HS := Aside0.mk (HS.out.added hb15 hs15 hp15 hq15); clear Hw Hwn Hwz Hzn hb15 hs15 hp15 hq15)
      | (go_at_call 12; refine (add_any W _ _ _ _ 2 _ _ _ HS.out.bk (by decide) Aw cw l Hw1.out (by have := hL.out; omega) Hwn1.out).mono ?_; rintro e w16 ⟨rfl, P3, Q3, y3, hb16, hs16, hp16, hq16⟩; replace HS := Aside0.mk (HS.out.added hb16 hs16 hp16 hq16); clear Hw1 Hwn1 hb16 hs16 hp16 hq16)
      | (go_at_call 13; refine (bywashbook_SamePrefs.calls K10 Az cz l A cp l true _ (Kd.R_reads' (own_second HS.out.bk)).2.2 (Kd.R_reads' Hz.out).2.1 (HS.out.reads (Kd.C_below HC.out HT8.out.a)) HCP.out e10.out).mono ?_; rintro e w17 ⟨rfl, hd17⟩; replace HS := Aside0.mk (HS.out.under hd17.below); clear hd17))
    have HE := Aside0.mk (show ∃ P Q k v u c, k ≤ 10 ∧ St W w8 _ w8.heap.size P Q k v u c from ⟨_, _, _, _, _, _, by decide, HS.out⟩)
    clear HS
    go_loopw [151] (fun t wl => ∃ (i : Nat), t = .int .i64 (i : Int) ∧ Aside0 (i ≤ l.length ∧ ∃ P Q k v u c, k ≤ 10 ∧ St W w8 wl w8.heap.size P Q k v u c)) (fun t _ => l.length - (intOf t).toNat)
    case atStart => exact ⟨0, rfl, ⟨⟨Nat.zero_le _, HE.out⟩⟩⟩
    case round =>
      obtain ⟨i, rfl, HR⟩ := hrel
      clear HE
      obtain ⟨P, Q, k, v, u, c, hk, hS⟩ := HR.out.2
      have HS := Aside0.mk hS
      have hk := Aside0.mk hk
      by_cases hi : (i : Int) < (l.length : Int)
      · have hi1 : decide ((i : Int) < (l.length : Int)) = true := decide_eq_true hi
        obtain ⟨ad, eA, a0, a1⟩ := at_T48 HC.out (i : Int) (by omega) hi
        simp only [Int.toNat_natCast] at a0 a1
        have hbl := hS.bk.bp.below
        have f0 := (hbl.cell (cell_lt a0)).trans a0
        have f1 := (hbl.cell (cell_lt a1)).trans a1
        have hwrap := Aside0.mk (show wrap64 ((i : Int) + 1) = ((i + 1 : Nat) : Int) from by unfold wrap64; have := hL.out; omega)
        have hi := Aside0.mk hi
        subst eA
        clear a0 a1 hbl hS
        generalize rd_T48 l (i : Int) = x at *
        by_cases hn : x.f1 < 0
        · have hn1 : decide (x.f1 < 0) = true := decide_eq_true hn
          go_wp2_with ((go_at_call 18; refine (apart_any W _ _ _ _ _ _ _ _ (HS.out.under (below_alloc (Below.refl _ _) _)).bk hk.out).mono ?_; rintro e w20 ⟨rfl, hb20⟩))
          go_ret
          exact ⟨rfl, hb20⟩
        · have hn1 : decide (x.f1 < 0) = false := decide_eq_false hn
          go_wp2
          exact ⟨⟨i + 1, congrArg _ hwrap.out, ⟨⟨by have := hi.out; omega, P, Q, k, v, u, c, hk.out, HS.out.under (below_alloc (Below.refl _ _) _)⟩⟩⟩, meas _ i (by have := hi.out; omega) hwrap.out⟩
      · have hi1 : decide ((i : Int) < (l.length : Int)) = false := decide_eq_false hi
        clear hS
        obtain ⟨r1, r2, r3, r4, r5, r6, r7, hap⟩ : ∃ r1 r2 r3 r4 r5 r6 r7, applyv (128, 6, 100, 64, 600) (128, 6, 100, 64, 600) l = (r1, r2, r3, r4, r5, r6, r7) := ⟨_, _, _, _, _, _, _, rfl⟩
        obtain ⟨K11, e11⟩ := apply_ev (128, 6, 100, 64, 600) l (by have := hL.out; omega)
        obtain ⟨K12, e12⟩ := rapply_ev (128, 6, 100, 64, 600) l (by have := hL.out; omega)
        have e11 := e11 K11 (Nat.le_refl _)
        have e12 := e12 K12 (Nat.le_refl _)
        rw [hap] at e11 e12
        have e11 := Aside0.mk e11
        have e12 := Aside0.mk e12
        clear hap
        go_wp2_with (first
          | (go_at_call 15; refine (prefs_First.calls 128 6 100 64 600 _ rfl).mono ?_; rintro e w21 ⟨rfl, hb21⟩; replace HS := Aside0.mk (HS.out.under hb21); clear hb21)
          | (go_at_call 19; refine (prefs_Apply.calls K11 128 6 100 64 600 Am cm l r1 r2 r3 r4 r5 r6 r7 _ (HS.out.reads (Kd.C_below (head_C HM.out) HT8.out.b)) (by have := Hcm.out; omega) e11.out).mono ?_; rintro e w22 ⟨rfl, hb22⟩; have HS1 := Aside0.mk ((HS.out.under hb22).under (below_alloc (Below.refl _ _) (.cells #[.int .i64 r1, .int .i64 r2, .int .i64 r3, .int .i64 r4, .int .i64 r5] 44))); have hb1 := Aside0.mk (heap_alloc_new w22 (.cells #[.int .i64 r1, .int .i64 r2, .int .i64 r3, .int .i64 r4, .int .i64 r5] 44)); clear HS hb22)
          | (go_at_call 16; refine (bywashref1_First.calls 128 6 100 64 600 _ rfl).mono ?_; rintro e w23 ⟨rfl, hb23⟩; replace HS1 := Aside0.mk (HS1.out.under hb23); replace hb1 := Aside0.mk ((hb23.block _ (blk_lt hb1.out)).trans hb1.out); clear hb23)
          | (go_at_call 20; refine (bywashref1_Apply.calls K12 128 6 100 64 600 _ cp l r1 r2 r3 r4 r5 r6 r7 _ (HS1.out.reads (Kd.C_below HC.out HT8.out.a)) HCP.out e12.out).mono ?_; rintro e w24 ⟨rfl, hb24⟩; have HS2 := Aside0.mk ((HS1.out.under hb24).under (below_alloc (Below.refl _ _) (.cells #[.int .i64 r1, .int .i64 r2, .int .i64 r3, .int .i64 r4, .int .i64 r5] 42))); have hb2 := Aside0.mk (heap_alloc_new w24 (.cells #[.int .i64 r1, .int .i64 r2, .int .i64 r3, .int .i64 r4, .int .i64 r5] 42)); replace hb1 := Aside0.mk ((Below.heap_alloc _ (.cells #[.int .i64 r1, .int .i64 r2, .int .i64 r3, .int .i64 r4, .int .i64 r5] 42) _ (Nat.lt_of_lt_of_le (blk_lt hb1.out) hb24.size)).trans ((hb24.block _ (blk_lt hb1.out)).trans hb1.out)); clear HS1 hb24))
        have HSd := Aside0.mk (HS2.out.under (below_drew1 (Below.refl _ _)))
        have B1 := Aside0.mk (blk_drew hb1.out)
        have B2 := Aside0.mk (blk_drew hb2.out)
        obtain ⟨c0, c1, c2, c3, c4⟩ := blk_cells5 B1.out
        obtain ⟨d0, d1, d2, d3, d4⟩ := blk_cells5 B2.out
        clear HS2 hb1 hb2
        refine start_ (n := 19) (S := (fun w' => w'.cell? ⟨w22.heap.size, 0, none⟩ = some (.int .i64 r1) ∧ w'.cell? ⟨w22.heap.size, 1, none⟩ = some (.int .i64 r2) ∧ w'.cell? ⟨w22.heap.size, 2, none⟩ = some (.int .i64 r3) ∧ w'.cell? ⟨w22.heap.size, 3, none⟩ = some (.int .i64 r4) ∧ w'.cell? ⟨w22.heap.size, 4, none⟩ = some (.int .i64 r5) ∧ w'.cell? ⟨w24.heap.size, 0, none⟩ = some (.int .i64 r1) ∧ w'.cell? ⟨w24.heap.size, 1, none⟩ = some (.int .i64 r2) ∧ w'.cell? ⟨w24.heap.size, 2, none⟩ = some (.int .i64 r3) ∧ w'.cell? ⟨w24.heap.size, 3, none⟩ = some (.int .i64 r4) ∧ w'.cell? ⟨w24.heap.size, 4, none⟩ = some (.int .i64 r5))) (ds := [16]) #[false, false, false, false, false, false, false, false, false, false, false, false, false, false, false, false, false, false, false] (by kernel_rfl) rfl rfl (⟨c0, c1, c2, c3, c4, d0, d1, d2, d3, d4⟩) (fun hHeld => ?_)
        refine with_tabW tabr3_29 bitsr3_29 (fun HT_ HW_ => ?_)
        generalize (w24.alloc (.cells #[.int .i64 r1, .int .i64 r2, .int .i64 r3, .int .i64 r4, .int .i64 r5] 42)).drew = w25 at HSd B1 B2 hHeld ⊢
        refine take_ (i := 0) (N := some 175) (v := ?_) (a' := ?_) #[true, false, false, false, false, false, false, false, false, false, false, false, false, false, false, false, false, false, false] rfl rfl (take_ofW HT_.out HW_.out (by kernel_rfl)) (fun _ _ _ h => h) (Or.inl ⟨by rfl, ?_⟩) hHeld ?_ ?_
        rotate_left
        · rintro w' ⟨s0, s1, s2, s3, s4, s5, s6, s7, s8, s9⟩
          go_simp
          with_reducible rfl
        rotate_left
        · simp only [Act.put, List.setIfInBounds_toArray, List.set_cons_zero, List.set_cons_succ, i64_w, i32_w]
          rfl
        refine take_ (i := 2) (N := some 177) (v := ?_) (a' := ?_) #[true, false, true, false, false, false, false, false, false, false, false, false, false, false, false, false, false, false, false] rfl rfl (take_ofW HT_.out HW_.out (by kernel_rfl)) (fun _ _ _ h => h) (Or.inl ⟨by rfl, ?_⟩) hHeld ?_ ?_
        rotate_left
        · rintro w' ⟨s0, s1, s2, s3, s4, s5, s6, s7, s8, s9⟩
          go_simp
          with_reducible rfl
        rotate_left
        · simp only [Act.put, List.setIfInBounds_toArray, List.set_cons_zero, List.set_cons_succ, i64_w, i32_w]
          rfl
        refine one_ (i := 1) (N := some 176) #[true, true, true, false, false, false, false, false, false, false, false, false, false, false, false, false, false, false, false] rfl rfl (one_of HT_.out (by kernel_rfl)) (by decide) (fun K hK => ?_)
        refine goes_ Try.func14 (by kernel_rfl) rfl #[.agg #[.int .i64 r1, .int .i64 r2, .int .i64 r3, .int .i64 r4, .int .i64 r5]] (by rfl) rfl rfl (by (try simp only [List.map_toArray, List.map_cons, List.map_nil]); first | done | rfl) ?_
        with_reducible refine (bywashlaw10_Ref.calls r1 r2 r3 r4 r5 r1 r2 r3 r4 r5 _ rfl).mono ?_
        rintro e w26 ⟨rfl, hb26⟩
        refine ⟨_, rfl, ?_⟩
        have HS3 := Aside0.mk (HSd.out.under hb26)
        obtain ⟨c0, c1, c2, c3, c4⟩ := blk_cells5 ((hb26.block _ (blk_lt B1.out)).trans B1.out)
        obtain ⟨d0, d1, d2, d3, d4⟩ := blk_cells5 ((hb26.block _ (blk_lt B2.out)).trans B2.out)
        refine hK.out _ _ ⟨c0, c1, c2, c3, c4, d0, d1, d2, d3, d4⟩ (fun hHeld => ?_)
        clear hK K hb26
        refine norm_ (a' := ?_) ?_ ?_
        rotate_left
        · show Act.put _ (some 176) _ = _
          simp only [Act.put, List.setIfInBounds_toArray, List.set_cons_zero, List.set_cons_succ, i64_w, i32_w]
          rfl
        refine pure_ (i := 3) (N := some 178) (v := ?_) (a' := ?_) #[true, true, true, true, false, false, false, false, false, false, false, false, false, false, false, false, false, false, false] rfl rfl (any_of HT_.out (by kernel_rfl)) (fun _ _ _ h => h) (Or.inl ⟨by rfl, ?_⟩) ?_ ?_
        rotate_left
        · intro w'
          go_simp
          with_reducible rfl
        rotate_left
        · simp only [Act.put, List.setIfInBounds_toArray, List.set_cons_zero, List.set_cons_succ, i64_w, i32_w]
          rfl
        refine pure_ (i := 4) (N := some 179) (v := ?_) (a' := ?_) #[true, true, true, true, true, false, false, false, false, false, false, false, false, false, false, false, false, false, false] rfl rfl (any_of HT_.out (by kernel_rfl)) (fun _ _ _ h => h) (Or.inl ⟨by rfl, ?_⟩) ?_ ?_
        rotate_left
        · intro w'
          go_simp
          with_reducible rfl
        rotate_left
        · simp only [Act.put, List.setIfInBounds_toArray, List.set_cons_zero, List.set_cons_succ, i64_w, i32_w]
          rfl
        refine pure_ (i := 5) (N := some 180) (v := ?_) (a' := ?_) #[true, true, true, true, true, true, false, false, false, false, false, false, false, false, false, false, false, false, false] rfl rfl (any_of HT_.out (by kernel_rfl)) (fun _ _ _ h => h) (Or.inl ⟨by rfl, ?_⟩) ?_ ?_
        rotate_left
        · intro w'
          go_simp
          with_reducible rfl
        rotate_left
        · simp only [Act.put, List.setIfInBounds_toArray, List.set_cons_zero, List.set_cons_succ, i64_w, i32_w]
          rfl
        refine pure_ (i := 6) (N := some 181) (v := ?_) (a' := ?_) #[true, true, true, true, true, true, true, false, false, false, false, false, false, false, false, false, false, false, false] rfl rfl (any_of HT_.out (by kernel_rfl)) (fun _ _ _ h => h) (Or.inl ⟨by rfl, ?_⟩) ?_ ?_
        rotate_left
        · intro w'
          go_simp
          with_reducible rfl
        rotate_left
        · simp only [Act.put, List.setIfInBounds_toArray, List.set_cons_zero, List.set_cons_succ, i64_w, i32_w]
          rfl
        refine pure_ (i := 7) (N := some 182) (v := ?_) (a' := ?_) #[true, true, true, true, true, true, true, true, false, false, false, false, false, false, false, false, false, false, false] rfl rfl (any_of HT_.out (by kernel_rfl)) (fun _ _ _ h => h) (Or.inl ⟨by rfl, ?_⟩) ?_ ?_
        rotate_left
        · intro w'
          go_simp
          with_reducible rfl
        rotate_left
        · simp only [Act.put, List.setIfInBounds_toArray, List.set_cons_zero, List.set_cons_succ, i64_w, i32_w]
          rfl
        refine pure_ (i := 8) (N := some 183) (v := ?_) (a' := ?_) #[true, true, true, true, true, true, true, true, true, false, false, false, false, false, false, false, false, false, false] rfl rfl (any_of HT_.out (by kernel_rfl)) (fun _ _ _ h => h) (Or.inl ⟨by rfl, ?_⟩) ?_ ?_
        rotate_left
        · intro w'
          go_simp
          with_reducible rfl
        rotate_left
        · simp only [Act.put, List.setIfInBounds_toArray, List.set_cons_zero, List.set_cons_succ, i64_w, i32_w]
          rfl
        refine pure_ (i := 9) (N := some 184) (v := ?_) (a' := ?_) #[true, true, true, true, true, true, true, true, true, true, false, false, false, false, false, false, false, false, false] rfl rfl (any_of HT_.out (by kernel_rfl)) (fun _ _ _ h => h) (Or.inl ⟨by rfl, ?_⟩) ?_ ?_
        rotate_left
        · intro w'
          go_simp
          with_reducible rfl
        rotate_left
        · simp only [Act.put, List.setIfInBounds_toArray, List.set_cons_zero, List.set_cons_succ, i64_w, i32_w]
          rfl
        refine pure_ (i := 10) (N := some 185) (v := ?_) (a' := ?_) #[true, true, true, true, true, true, true, true, true, true, true, false, false, false, false, false, false, false, false] rfl rfl (any_of HT_.out (by kernel_rfl)) (fun _ _ _ h => h) (Or.inl ⟨by rfl, ?_⟩) ?_ ?_
        rotate_left
        · intro w'
          go_simp
          with_reducible rfl
        rotate_left
        · simp only [Act.put, List.setIfInBounds_toArray, List.set_cons_zero, List.set_cons_succ, i64_w, i32_w]
          rfl
        refine pure_ (i := 11) (N := some 186) (v := ?_) (a' := ?_) #[true, true, true, true, true, true, true, true, true, true, true, true, false, false, false, false, false, false, false] rfl rfl (any_of HT_.out (by kernel_rfl)) (fun _ _ _ h => h) (Or.inl ⟨by rfl, ?_⟩) ?_ ?_
        rotate_left
        · intro w'
          go_simp
          with_reducible rfl
        rotate_left
        · simp only [Act.put, List.setIfInBounds_toArray, List.set_cons_zero, List.set_cons_succ, i64_w, i32_w]
          rfl
        refine pure_ (i := 12) (N := some 187) (v := ?_) (a' := ?_) #[true, true, true, true, true, true, true, true, true, true, true, true, true, false, false, false, false, false, false] rfl rfl (any_of HT_.out (by kernel_rfl)) (fun _ _ _ h => h) (Or.inl ⟨by rfl, ?_⟩) ?_ ?_
        rotate_left
        · intro w'
          go_simp
          with_reducible rfl
        rotate_left
        · simp only [Act.put, List.setIfInBounds_toArray, List.set_cons_zero, List.set_cons_succ, i64_w, i32_w]
          rfl
        refine pure_ (i := 13) (N := some 188) (v := ?_) (a' := ?_) #[true, true, true, true, true, true, true, true, true, true, true, true, true, true, false, false, false, false, false] rfl rfl (any_of HT_.out (by kernel_rfl)) (fun _ _ _ h => h) (Or.inl ⟨by rfl, ?_⟩) ?_ ?_
        rotate_left
        · intro w'
          go_simp
          with_reducible rfl
        rotate_left
        · simp only [Act.put, List.setIfInBounds_toArray, List.set_cons_zero, List.set_cons_succ, i64_w, i32_w]
          rfl
        refine pure_ (i := 14) (N := some 189) (v := ?_) (a' := ?_) #[true, true, true, true, true, true, true, true, true, true, true, true, true, true, true, false, false, false, false] rfl rfl (any_of HT_.out (by kernel_rfl)) (fun _ _ _ h => h) (Or.inl ⟨by rfl, ?_⟩) ?_ ?_
        rotate_left
        · intro w'
          go_simp
          with_reducible rfl
        rotate_left
        · simp only [Act.put, List.setIfInBounds_toArray, List.set_cons_zero, List.set_cons_succ, i64_w, i32_w]
          rfl
        refine pure_ (i := 15) (N := some 190) (v := ?_) (a' := ?_) #[true, true, true, true, true, true, true, true, true, true, true, true, true, true, true, true, false, false, false] rfl rfl (any_of HT_.out (by kernel_rfl)) (fun _ _ _ h => h) (Or.inl ⟨by rfl, ?_⟩) ?_ ?_
        rotate_left
        · intro w'
          go_simp
          with_reducible rfl
        rotate_left
        · simp only [Act.put, List.setIfInBounds_toArray, List.set_cons_zero, List.set_cons_succ, i64_w, i32_w]
          rfl
        refine last_ (i := 16) (N := some 191) #[true, true, true, true, true, true, true, true, true, true, true, true, true, true, true, true, true, false, false] rfl rfl (one_of HT_.out (by kernel_rfl)) (by decide) (fun K hK => ?_)
        refine goes_ Try.func18 (by kernel_rfl) rfl #[.pointer (some ⟨w8.heap.size, 0, none⟩)] (by rfl) rfl rfl (by (try simp only [List.map_toArray, List.map_cons, List.map_nil]); first | done | rfl) ?_
        with_reducible refine (apart_any W _ _ _ _ _ _ _ _ HS3.out.bk hk.out).mono ?_
        rintro e w27 ⟨rfl, hb27⟩
        refine ⟨_, rfl, ?_⟩
        refine hK.out _ _ ?_
        clear hK K
        refine norm_ (a' := ?_) ?_ ?_
        rotate_left
        · show Act.put _ (some 191) _ = _
          simp only [Act.put, List.setIfInBounds_toArray, List.set_cons_zero, List.set_cons_succ, i64_w, i32_w]
          rfl
        refine pure_ (i := 17) (N := some 192) (v := ?_) (a' := ?_) #[true, true, true, true, true, true, true, true, true, true, true, true, true, true, true, true, true, true, false] rfl rfl (any_of HT_.out (by kernel_rfl)) (fun _ _ _ h => h) (Or.inl ⟨by rfl, ?_⟩) ?_ ?_
        rotate_left
        · intro w'
          go_simp
          with_reducible rfl
        rotate_left
        · simp only [Act.put, List.setIfInBounds_toArray, List.set_cons_zero, List.set_cons_succ, i64_w, i32_w]
          rfl
        refine pure_ (i := 18) (N := some 6) (v := ?_) (a' := ?_) #[true, true, true, true, true, true, true, true, true, true, true, true, true, true, true, true, true, true, true] rfl rfl (any_of HT_.out (by kernel_rfl)) (fun _ _ _ h => h) (Or.inl ⟨by rfl, ?_⟩) ?_ ?_
        rotate_left
        · intro w'
          go_simp
          with_reducible rfl
        rotate_left
        · simp only [Act.put, List.setIfInBounds_toArray, List.set_cons_zero, List.set_cons_succ, i64_w, i32_w]
          rfl
        refine done_ (done_of HT_.out (by kernel_rfl)) ?_
        try go_wp2
        go_ret
        exact ⟨rfl, hb27⟩
abbrev SF := S48
def zF : SF := z48
abbrev kF := k48
theorem PrefsTells_all (W : World) (A : Option Addr) (cp : Nat) (l : List SF) (hr : Kd.C kF W A l.length l) (hc : l.length ≤ cp) (b : ByteArray) (win : Int) :
    Calls Try.prog 3 #[.slice A l.length cp, .string b, .int .i64 win] W fun e w' => e = .returned (.bool true) ∧ Below W.heap.size W w' := by
  cases h1 : decide ((40 : Int) < (l.length : Int))
  · cases h2 : decide ((400 : Int) < (b.size : Int))
    · exact tells_walk W A cp l hr hc b win h1 h2
    · exact tells_alive W A cp _ b win (Or.inr ⟨h1, h2⟩)
  · exact tells_alive W A cp _ b win (Or.inl h1)
end Go.Proofs.Ytfeihaoppahmnaa.Close
