/- The law BlockPlays answers true: the walk. Conditions: none. -/
import Derived.Test.YtdonanibfifodaaPureBlockPlays
import Derived.WalkKit
import Derived.Below
import Derived.RowKitTokens
import Derived.Deep.RegionWith
import Derived.Deep.QuietTactic
import Derived.BigQuiet
import Derived.Lib.Hide
namespace Go.Proofs.Ytdonanibfifodaa.Close
open Go.RowKit Go.Proofs.YtdonanibfifodaaW.PrintWords Go.Proofs.YtdonanibfifodaaW.PrintLast Go.Proofs.YtdonanibfifodaaW.PrintMore Go.Proofs.Ytdonanibfifodaa.Aid Go.Proofs.Ytdonanibfifodaa.PBlockPlays Go.Proofs.Ytdonanibfifodaa.Pure
set_option linter.unusedVariables false
set_option linter.unusedSimpArgs false

abbrev SF := S39
def zF : SF := z39
abbrev kF := k39
theorem cell_lt {W : World} {a : Addr} {v : Value} (h : W.cell? a = some v) : a.block < W.heap.size := by
  rcases Nat.lt_or_ge a.block W.heap.size with h1 | h1
  · exact h1
  · simp [World.cell?, Array.getElem?_eq_none h1] at h
theorem meas (n i : Nat) (hi : (i : Int) < (n : Int)) (hw : wrap64 ((i : Int) + 1) = ((i + 1 : Nat) : Int)) : n - (intOf (.int .i64 (wrap64 ((i : Int) + 1)))).toNat < n - (intOf (.int .i64 (i : Int))).toNat := by
  rw [hw]
  show n - (((i + 1 : Nat) : Int)).toNat < n - ((i : Int)).toNat
  omega
/-- Take, of both. -/
theorem both (m id : Int) (b : ByteArray) (en en' : Bool) (kd fl fid : Int) (body : ByteArray) (hb : b.size ≤ 1000000000000) (hbody : body.size ≤ 1000000000000) (hid : id = 0 → b = (⟨#[]⟩ : ByteArray)) (hen : ¬ id = 0 → en = en') :
    ∃ (u1 : Int) (u2 : ByteArray) (u3 u4 : Bool) (u5 u7 : Int) (u8 : ByteArray) (u9 t9 : Bool),
      (∀ g w0 w, IsS63 w0 w g m id b en → Below w0.heap.size w0 w → Calls Try.prog 16 #[.pointer (some ⟨g, 0, none⟩), .agg #[.int .i64 kd, .int .i64 fl, .int .i64 fid, .string body]] w fun e w' => e = .returned (.tuple #[.agg #[.int .i64 u1, .string u2, .bool u3], .bool u4, .int .i64 u5]) ∧ IsS63 w0 w' g m u7 u8 u9 ∧ Below w0.heap.size w0 w' ∧ KeepBut w w' g none) ∧
      (∀ g w0 w, IsS49 w0 w g m id b en' → Below w0.heap.size w0 w → Calls Try.prog 19 #[.pointer (some ⟨g, 0, none⟩), .agg #[.int .i64 kd, .int .i64 fl, .int .i64 fid, .string body]] w fun e w' => e = .returned (.tuple #[.agg #[.int .i64 u1, .string u2, .bool u3], .bool u4, .int .i64 u5]) ∧ IsS49 w0 w' g m u7 u8 t9 ∧ Below w0.heap.size w0 w' ∧ KeepBut w w' g none) ∧
      u8.size ≤ b.size + body.size ∧ (u7 = 0 → u8 = (⟨#[]⟩ : ByteArray)) ∧ (¬ u7 = 0 → u9 = t9) := by
  obtain ⟨t, ht, q1, q2, q3, q4, q5, q6, q7, q8, q9⟩ := take2 m id b en en' kd fl fid body hb hbody hid hen
  obtain ⟨g1, g2, g3⟩ := giv_next m id b en kd fl fid body hid
  obtain ⟨K, hK⟩ := Take_ev m id b en kd fl fid body hb hbody
  obtain ⟨K2, hK2⟩ := ht
  have hX := hK K (Nat.le_refl _)
  have hY := hK2 K2 (Nat.le_refl _)
  generalize giv m (takev m id b en kd fl fid body) = u at *
  obtain ⟨u1, u2, u3, u4, u5, u6, u7, u8, u9⟩ := u
  obtain ⟨t1, t2, t3, t4, t5, t6, t7, t8, t9⟩ := t
  simp only [] at q1 q2 q3 q4 q5 q6 q7 q8 q9 g1 g2 g3
  subst q1 q2 q3 q4 q5 q6 q7 q8
  subst g1
  exact ⟨u1, u2, u3, u4, u5, u7, u8, u9, t9, fun g w0 w hI hB => block_Blocks_Take.calls K g _ id b en kd fl fid body _ _ _ _ _ _ _ _ _ w0 w hI hB hX, fun g w0 w hI hB => bywashref1_Blocks_Take.calls K2 g _ id b en' kd fl fid body _ _ _ _ _ _ _ _ _ w0 w hI hB hY, g2, g3, q9⟩
theorem new_nil (m : Int) (h : decide (m < 1) = true) (w : World) : Calls Try.prog 15 #[.int .i64 m] w fun e w' => e = .returned (.pointer none) ∧ Below w.heap.size w w' := by
  have hb := Aside0.mk (Below.refl w.heap.size w)
  go_enter Try.func15, Try.ntmps15
  go_wp2
  go_ret
  exact ⟨rfl, hb.out⟩
theorem take_nil (w : World) : Calls Try.prog 16 #[.pointer none, .agg #[.int .i64 0, .int .i64 0, .int .i64 0, .string (⟨#[]⟩ : ByteArray)]] w fun e w' => e = .returned (.tuple #[.agg #[.int .i64 0, .string (⟨#[]⟩ : ByteArray), .bool false], .bool false, .int .i64 8]) ∧ Below w.heap.size w w' := by
  go_enter Try.func16, Try.ntmps16
  go_wp2
  refine bodyPost_ret (results_ctt rfl _ _ (w.heap.size + 1) 41 #[.int .i64 0, .string (⟨#[]⟩ : ByteArray), .bool false] (0, 0) _ rfl (by have h := heap_alloc_new (w.alloc (.cells #[.int .i64 0, .int .i64 0, .int .i64 0, .string (⟨#[]⟩ : ByteArray)] 39)) (.cells #[.int .i64 0, .string (⟨#[]⟩ : ByteArray), .bool false] 41); rwa [show (w.alloc (.cells #[.int .i64 0, .int .i64 0, .int .i64 0, .string (⟨#[]⟩ : ByteArray)] 39)).heap.size = w.heap.size + 1 from by simp] at h) Try.underlying41 rfl (by kernel_rfl)) rfl ?_
  exact ⟨rfl, below_alloc (below_alloc (Below.refl _ _) _) _⟩
theorem open_nil (w : World) : Calls Try.prog 17 #[.pointer none] w fun e w' => e = .returned (.int .i64 0) ∧ Below w.heap.size w w' := by
  have hb := Aside0.mk (Below.refl w.heap.size w)
  go_enter Try.func17, Try.ntmps17
  go_wp2
  go_ret
  exact ⟨rfl, hb.out⟩

theorem blk_cells3 {w : World} {g t : Nat} {a b c : Value} (h : w.heap[g]? = some (.cells #[a, b, c] t (0, 0))) : w.cell? ⟨g, 0, none⟩ = some a ∧ w.cell? ⟨g, 1, none⟩ = some b ∧ w.cell? ⟨g, 2, none⟩ = some c :=
  ⟨(blk_cell h 0).trans rfl, (blk_cell h 1).trans rfl, (blk_cell h 2).trans rfl⟩
theorem blk_cells4 {w : World} {g t : Nat} {a b c d : Value} (h : w.heap[g]? = some (.cells #[a, b, c, d] t (0, 0))) : w.cell? ⟨g, 0, none⟩ = some a ∧ w.cell? ⟨g, 1, none⟩ = some b ∧ w.cell? ⟨g, 2, none⟩ = some c ∧ w.cell? ⟨g, 3, none⟩ = some d :=
  ⟨(blk_cell h 0).trans rfl, (blk_cell h 1).trans rfl, (blk_cell h 2).trans rfl, (blk_cell h 3).trans rfl⟩
/-- A block of its own, behind a call that changes g alone, and a block more. -/
theorem box_kept {w w2 : World} {g : Nat} {o o2 : Obj} (hk : KeepBut (w.alloc o) w2 g none) (hg : g < w.heap.size) : (w2.alloc o2).heap[w.heap.size]? = some o := by
  have h1 : w2.heap[w.heap.size]? = some o := (hk.2 _ (by simp) (by omega) (by simp)).trans (heap_alloc_new w o)
  exact (Below.heap_alloc _ _ _ (blk_lt h1)).trans h1

theorem on_alloc {w : World} {a : Addr} {v : Value} (h : w.cell? a = some v) (o : Obj) : (w.alloc o).cell? a = some v := ((below_alloc (Below.refl _ _) o).cell (cell_lt h)).trans h
theorem at2 {w : World} {A : Option Addr} {x y : S39} (h : Kd.C k39 w A 2 [x, y]) : ∃ ad : Addr, A = some ad ∧
    (w.cell? ad = some (.int .i64 x.f0) ∧ w.cell? ⟨ad.block, ad.off + 1, none⟩ = some (.int .i64 x.f1) ∧ w.cell? ⟨ad.block, ad.off + 2, none⟩ = some (.int .i64 x.f2) ∧ w.cell? ⟨ad.block, ad.off + 3, none⟩ = some (.string x.f3)) ∧
    (w.cell? ⟨ad.block, ad.off + 4, none⟩ = some (.int .i64 y.f0) ∧ w.cell? ⟨ad.block, ad.off + 4 + 1, none⟩ = some (.int .i64 y.f1) ∧ w.cell? ⟨ad.block, ad.off + 4 + 2, none⟩ = some (.int .i64 y.f2) ∧ w.cell? ⟨ad.block, ad.off + 4 + 3, none⟩ = some (.string y.f3)) := by
  obtain ⟨ad, rfl, a⟩ := at_T39 h 0 (by omega) (by omega)
  obtain ⟨ad', e', b⟩ := at_T39 h 1 (by omega) (by omega)
  obtain rfl := Option.some.inj e'
  simp only [show (1 : Int).toNat = 1 from rfl, show (0 : Int).toNat = 0 from rfl, Nat.reduceMul, Nat.reduceEqDiff, Go.Addr.add, ↓reduceIte] at a b
  exact ⟨ad, rfl, a, b⟩
set_option maxHeartbeats 1000000 in
set_option maxRecDepth 100000 in
theorem alive_any (w : World) : Calls Try.prog 10 #[] w fun e w' => e = .returned (.bool true) ∧ Below w.heap.size w w' := by
  obtain ⟨y, hy0⟩ : ∃ y : List Int, y = List.replicate 100 0 := ⟨_, rfl⟩
  obtain ⟨Z, hZ⟩ : ∃ Z, Z = strOfNums y := ⟨_, rfl⟩
  have hz : Z.size = 100 := by rw [hZ, hy0, strOfNums_size, List.length_replicate]
  have hy := Aside0.mk hy0
  clear hy0
  have c1 := cut_size Z 0 64 (by omega) (by omega)
  have c2 := cut_size Z 64 Z.size (by omega) (by omega)
  obtain ⟨K, hK⟩ := cut_ev 3 Z true 64 (by omega) (by omega) (by omega) (by omega) (by omega)
  have hX := hK K (Nat.le_refl _)
  rw [alive_cutl Z hz] at hX
  obtain ⟨K1, hK1⟩ := Take_ev 200 0 (⟨#[]⟩ : ByteArray) false 1 1 3 (Z.extract 0 64) (by decide) (by omega)
  have hX1 := hK1 K1 (Nat.le_refl _)
  rw [alive_t1 Z hz] at hX1
  obtain ⟨K2, hK2⟩ := Take_ev 200 3 (Z.extract 0 64) true 9 (Go.bits .or .i64 0 4) 3 (Z.extract 64 Z.size) (by omega) (by omega)
  have hX2 := hK2 K2 (Nat.le_refl _)
  rw [alive_t2 Z hz] at hX2
  have HC := fun W => block_Cut.calls K 3 Z true 64 _ _ W hX
  have HN := fun W hB => block_New.calls 200 _ _ _ _ w W hB (new_run 200 (by omega))
  have HT1 := fun g W hI hB => block_Blocks_Take.calls K1 g 200 0 (⟨#[]⟩ : ByteArray) false 1 1 3 (Z.extract 0 64) _ _ _ _ _ _ _ _ _ w W hI hB hX1
  have HT2 := fun g W hI hB => block_Blocks_Take.calls K2 g 200 3 (Z.extract 0 64) true 9 (Go.bits .or .i64 0 4) 3 (Z.extract 64 Z.size) _ _ _ _ _ _ _ _ _ w W hI hB hX2
  have HO := fun g W hI hB => block_Blocks_Open.calls g 200 0 (⟨#[]⟩ : ByteArray) false _ _ _ _ _ w W hI hB rfl
  have hz1 : ((Z.size : Int) == 100) = true := by rw [hz]; rfl
  have hz2 : ((Z.size : Int) != 100) = false := by rw [hz]; rfl
  have hpl : Go.bits .or .i64 0 4 = 4 := by decide
  clear hK hX hK1 hX1 hK2 hX2
  generalize Z.extract 0 64 = P1 at *
  generalize Z.extract 64 Z.size = P2 at *
  subst hZ
  go_enter Try.func10, Try.ntmps10
  go_wp2_with (first
    | ((with_reducible refine gate_dst (N := 11) rfl ?_); (try (refine gate_guard (by rfl) ?_; dsimp only)); refine Kd.R_make (Kd.int .u8) _ 5 rfl (N := 11) rfl 60 _ _ rfl 100 rfl rfl Try.underlying60 (.int .u8 0) 1 info5 rfl (by decide) (by omega) 0 (ok := fun _ => True) (okp := fun _ => True) rfl (fun _ hk => hk) trivial (by omega) (by omega) (Below.refl _ _) (Nat.le_refl _) ?_; intro v145 w5 ho6 hb5 hg_ hnew_; clear hg_ hnew_; (first | rw [← hy.out] at ho6 | (simp only [Int.reduceToNat] at ho6; rw [← hy.out] at ho6)); have hcv := own_string (P := Try.prog) Try.underlying60 Try.underlying5 Try.underlying9 (Kd.own_of_R ho6); clear ho6)
    | (go_at_call 11; refine (HC _).mono ?_; rintro e w8 ⟨v, rfl, ho8, hb8⟩; clear HC; obtain ⟨A, c, rfl⟩ := Kd.R_slice ho8; have HB8 := below_step hb5 hb8; clear hb5 hb8)
    | (go_at_call 15; refine (HN _ HB8).mono ?_; rintro e w9 ⟨g, rfl, hI9, hB9, hb9⟩; clear HN; obtain ⟨ad, rfl, ⟨a0, a1, a2, a3⟩, ⟨b0, b1, b2, b3⟩⟩ := at2 (Kd.C_below (Kd.R_reads' ho8).2.2 hb9); have hne := Kd.own_blk (IsS63.own_ne hI9 (Kd.R_below ho8 hb9) (by decide)); clear ho8 hb9 HB8)
    | (go_at_call 16; refine (HT1 g _ hI9 hB9).mono ?_; rintro e w10 ⟨rfl, hI10, hB10, hk10⟩; clear HT1 a0 a1 a2 a3; have b0 := on_alloc (keep_cell hk10 b0 hne) (.cells #[.int .i64 0, .string (⟨#[]⟩ : ByteArray), .bool false] 41); have b1 := on_alloc (keep_cell hk10 b1 hne) (.cells #[.int .i64 0, .string (⟨#[]⟩ : ByteArray), .bool false] 41); have b2 := on_alloc (keep_cell hk10 b2 hne) (.cells #[.int .i64 0, .string (⟨#[]⟩ : ByteArray), .bool false] 41); have b3 := on_alloc (keep_cell hk10 b3 hne) (.cells #[.int .i64 0, .string (⟨#[]⟩ : ByteArray), .bool false] 41); clear hI9 hB9 hk10)
    | (go_at_call 16; refine (HT2 g _ (hI10.alloc _) (below_alloc hB10 _)).mono ?_; rintro e w11 ⟨rfl, hI11, hB11, hk11⟩; clear HT2)
    | (go_at_call 17; refine (HO g _ (hI11.alloc _) (below_alloc hB11 _)).mono ?_; rintro e w12 ⟨rfl, hI12, hB12, hk12⟩))
  go_ret
  exact ⟨rfl, hB12⟩

/-- What a round knows. -/
structure Play (W wl : World) (l : List SF) (g h : Nat) (m : Int) (i : Nat) (id : Int) (b : ByteArray) (en en' : Bool) : Prop where
  le : i ≤ l.length
  s : IsS63 W wl g m id b en
  r : IsS49 W wl h m id b en'
  below : Below W.heap.size W wl
  bsz : b.size ≤ i * 900
  hid : id = 0 → b = (⟨#[]⟩ : ByteArray)
  hen : ¬ id = 0 → en = en'
theorem box_first {w w2 : World} {g : Nat} {o : Obj} (hk : KeepBut (w.alloc o) w2 g none) (hg : g < w.heap.size) : w2.heap[w.heap.size]? = some o :=
  (hk.2 _ (by simp) (by omega) (by simp)).trans (heap_alloc_new w o)
theorem size_alloc (w : World) (o : Obj) : (w.alloc o).heap.size = w.heap.size + 1 := by simp

theorem plays_nil (W : World) (m : Int) (l : List SF) (A : Option Addr) (c : Nat) (h80 : decide ((80 : Int) < (l.length : Int)) = false) (hm : decide (m < 1) = true) :
    Calls Try.prog 4 #[.int .i64 m, .slice A l.length c] W fun e w' => e = .returned (.bool true) ∧ Below W.heap.size W w' := by
  have HN := fun w => new_nil m hm w
  go_enter Try.func4, Try.ntmps4
  go_wp2_with (first
    | (go_at_call 10; refine (alive_any _).mono ?_; rintro e w1 ⟨rfl, hb1⟩)
    | (go_at_call 15; refine (HN _).mono ?_; rintro e w2 ⟨rfl, hb2⟩; clear HN; have hb2 := below_step hb1 hb2)
    | (go_at_call 16; refine (take_nil _).mono ?_; rintro e w3 ⟨rfl, hb3⟩; have hb3 := below_step hb2 hb3)
    | (go_at_call 17; refine (open_nil _).mono ?_; rintro e w4 ⟨rfl, hb4⟩; have hb4 := below_step (below_alloc hb3 _) hb4))
  go_ret
  exact ⟨rfl, hb4⟩
theorem plays_alive (W : World) (m : Int) (l : List SF) (A : Option Addr) (c : Nat) (h80 : decide ((80 : Int) < (l.length : Int)) = true) :
    Calls Try.prog 4 #[.int .i64 m, .slice A l.length c] W fun e w' => e = .returned (.bool true) ∧ Below W.heap.size W w' := by
  go_enter Try.func4, Try.ntmps4
  go_wp2_with ((go_at_call 10; refine (alive_any _).mono ?_; rintro e w1 ⟨rfl, hb1⟩))
  go_ret
  exact ⟨rfl, hb1⟩
def T18 : Bool × List (List Nat × List Nat) := (true, [([], []), ([], []), ([1], [1]), ([], []), ([3], [3]), ([], []), ([5], [5]), ([2, 4, 6], [2, 4, 6]), ([0, 7], [0, 7]), ([8], [8]), ([9], [9]), ([9], [9]), ([10, 11, 9], [9, 10, 11]), ([9, 12], [9, 12]), ([13, 9], [13]), ([14], [14]), ([14], [14]), ([15, 16, 14], [14, 15, 16]), ([14, 17], [14, 17]), ([18, 14], [18]), ([19], [19]), ([20, 19, 19], [19, 20]), ([19], [19]), ([22, 19], [19, 22]), ([23, 19], [19, 23]), ([24, 19], [19, 24]), ([21, 25, 19], [19, 21, 25]), ([19, 26], [19, 26])])
def B18 : List Nat := [0, 0, 2, 0, 8, 0, 32, 126, 255, 511, 1023, 1023, 4095, 8191, 16383, 32767, 32767, 131071, 262143, 524287, 1048575, 2097151, 1048575, 5242879, 13631487, 30408703, 67108863, 134217727]
theorem tab18 : rtab .any (opsOf Try.f4 18) = T18 := by kernel_rfl
theorem bits18 : waitsOk T18.2 B18 = true := by kernel_rfl
set_option maxHeartbeats 4000000 in
set_option maxRecDepth 100000 in
theorem plays_walk (W : World) (m : Int) (l : List SF) (A : Option Addr) (c : Nat) (hr : Kd.C kF W A l.length l) (hc : l.length ≤ c) (h80 : decide ((80 : Int) < (l.length : Int)) = false) (hm : decide (m < 1) = false) :
    Calls Try.prog 4 #[.int .i64 m, .slice A l.length c] W fun e w' => e = .returned (.bool true) ∧ Below W.heap.size W w' := by
  have HC := Aside0.mk hr
  have HCP := Aside0.mk hc
  have hL := Aside0.mk (show l.length ≤ 80 by simp only [decide_eq_false_iff_not] at h80; omega)
  have hm1 : 1 ≤ m := by simp only [decide_eq_false_iff_not] at hm; omega
  have HN := fun w hB => block_New.calls m _ _ _ _ W w hB (new_run m hm1)
  clear hr hc hm1
  go_enter Try.func4, Try.ntmps4
  go_wp2_with (first
    | (go_at_call 10; refine (alive_any _).mono ?_; rintro e w1 ⟨rfl, hb1⟩)
    | (go_at_call 15; refine (HN _ hb1).mono ?_; rintro e w2 ⟨g, rfl, hI2, hB2, hb2⟩; clear HN hb1 hb2))
  have hP0 := Aside0.mk (show Play W (w2.alloc (.cells #[.int .i64 m, .int .i64 0, .string (⟨#[]⟩ : ByteArray), .bool false] 49)) l g w2.heap.size m 0 0 (⟨#[]⟩ : ByteArray) false false from ⟨Nat.zero_le _, hI2.alloc _, IsS49.new W w2 m 0 (⟨#[]⟩ : ByteArray) false hB2, below_alloc hB2 _, Nat.zero_le _, fun _ => rfl, fun _ => rfl⟩)
  clear hI2 hB2
  generalize w2.heap.size = h at *
  go_loopw [60] (fun vI wl => ∃ (i : Nat) (id : Int) (b : ByteArray) (en en' : Bool), vI = .int .i64 (i : Int) ∧ Aside0 (Play W wl l g h m i id b en en')) (fun vI _ => l.length - (intOf vI).toNat)
  case atStart => exact ⟨0, 0, (⟨#[]⟩ : ByteArray), false, false, rfl, hP0⟩
  case round =>
    obtain ⟨i, id, b, en, en', rfl, HP⟩ := hrel
    clear hP0
    by_cases hi : (i : Int) < (l.length : Int)
    · have hi1 : decide ((i : Int) < (l.length : Int)) = true := decide_eq_true hi
      obtain ⟨ad, eA, a0, a1, a2, a3⟩ := at_T39 HC.out (i : Int) (by omega) hi
      simp only [Int.toNat_natCast] at a0 a1 a2 a3
      have hbl := HP.out.below
      have e0 := (hbl.cell (cell_lt a0)).trans a0
      have e1 := (hbl.cell (cell_lt a1)).trans a1
      have e2 := (hbl.cell (cell_lt a2)).trans a2
      have e3 := (hbl.cell (cell_lt a3)).trans a3
      have hwrap := Aside0.mk (show wrap64 ((i : Int) + 1) = ((i + 1 : Nat) : Int) from by unfold wrap64; have := hL.out; omega)
      have hi := Aside0.mk hi
      subst eA
      clear a0 a1 a2 a3 hbl
      generalize rd_T39 l (i : Int) = x at *
      by_cases hs : (900 : Int) < (x.f3.size : Int)
      · have hs1 : decide ((900 : Int) < (x.f3.size : Int)) = true := decide_eq_true hs
        go_wp2
        go_ret
        exact ⟨rfl, below_alloc HP.out.below _⟩
      · have hs1 : decide ((900 : Int) < (x.f3.size : Int)) = false := decide_eq_false hs
        have hbz : b.size ≤ 72000 := Nat.le_trans HP.out.bsz (Nat.le_trans (Nat.mul_le_mul_right _ (Nat.le_trans HP.out.le hL.out)) (by decide))
        have hxz : x.f3.size ≤ 900 := by omega
        obtain ⟨u1, u2, u3, u4, u5, u7, u8, u9, t9, HT, HR, hsz, hid, hen⟩ := both m id b en en' x.f0 x.f1 x.f2 x.f3 (by omega) (by omega) HP.out.hid HP.out.hen
        have hgh := Aside0.mk (HP.out.s.ne_blk HP.out.r.1 (by decide))
        have hsz := Aside0.mk (show u8.size ≤ (i + 1) * 900 from by have := HP.out.bsz; have := Nat.succ_mul i 900; omega)
        have hid := Aside0.mk hid
        have hen := Aside0.mk hen
        clear hbz hs
        have hxz := Aside0.mk hxz
        have hgl := Aside0.mk HP.out.s.lt
        have hhl := Aside0.mk HP.out.r.lt
        have HO := fun w hI hB => block_Blocks_Open.calls g m u7 u8 u9 _ _ _ _ _ W w hI hB rfl
        go_wp2_with (first
          | (go_at_call 16; refine (HT g W _ (HP.out.s.alloc _) (below_alloc HP.out.below _)).mono ?_; rintro e w3 ⟨rfl, hI3, hB3, hk3⟩; clear HT; have hF := box_first hk3 hgl.out; have hr3 := ((HP.out.r.alloc (.cells #[.int .i64 x.f0, .int .i64 x.f1, .int .i64 x.f2, .string x.f3] 39)).1.symm ▸ hk3.2 h (by rw [size_alloc]; have := hhl.out; omega) (fun e => hgh.out e.symm) (by simp)); obtain ⟨q0, q1, q2, q3⟩ := blk_cells4 ((Below.heap_alloc _ (.cells #[.int .i64 u1, .string u2, .bool u3] 41) _ (blk_lt hF)).trans hF))
          | (go_at_call 19; refine (HR h W _ (IsS49.alloc ⟨hr3, HP.out.r.2⟩ _) (below_alloc hB3 _)).mono ?_; rintro e w4 ⟨rfl, hI4, hB4, hk4⟩; clear HR))
        have S18 := Aside0.mk (show IsS63 W (w4.alloc (.cells #[.int .i64 u1, .string u2, .bool u3] 50)).drew g m u7 u8 u9 from IsS63.drew (IsS63.alloc ⟨(hk4.2 g (by rw [size_alloc]; have := hI3.lt; omega) hgh.out (by simp)).trans (hI3.alloc (.cells #[.int .i64 u1, .string u2, .bool u3] 41)).1, hI3.2⟩ _))
        have R18 := Aside0.mk (hI4.alloc (.cells #[.int .i64 u1, .string u2, .bool u3] 50)).drew
        have B18 := Aside0.mk (below_drew1 (below_alloc hB4 (.cells #[.int .i64 u1, .string u2, .bool u3] 50)))
        have BA := Aside0.mk (blk_drew (box_kept (o2 := (.cells #[.int .i64 u1, .string u2, .bool u3] 50)) hk4 (blk_lt hr3)))
        have BB := Aside0.mk (blk_drew (heap_alloc_new w4 (.cells #[.int .i64 u1, .string u2, .bool u3] 50)))
        obtain ⟨c0, c1, c2⟩ := blk_cells3 BA.out
        obtain ⟨d0, d1, d2⟩ := blk_cells3 BB.out
        obtain ⟨k0, k1, k2, k3⟩ := blk_cells4 R18.out.1
        have nA := Aside0.mk (show w3.heap.size ≠ g from Nat.ne_of_gt hI3.lt)
        have nB := Aside0.mk (show w4.heap.size ≠ g from by have h1 := hI3.lt; have h2 := hk4.1; rw [size_alloc] at h2; omega)
        clear hI3 hB3 hk3 hF hr3 hI4 hB4 hk4
        refine start_ (n := 28) (S := fun w' => w'.cell? ⟨w3.heap.size, 0, none⟩ = some (.int .i64 u1) ∧ w'.cell? ⟨w3.heap.size, 1, none⟩ = some (.string u2) ∧ w'.cell? ⟨w3.heap.size, 2, none⟩ = some (.bool u3) ∧ w'.cell? ⟨w4.heap.size, 0, none⟩ = some (.int .i64 u1) ∧ w'.cell? ⟨w4.heap.size, 1, none⟩ = some (.string u2) ∧ w'.cell? ⟨w4.heap.size, 2, none⟩ = some (.bool u3) ∧ w'.cell? ⟨h, 0, none⟩ = some (.int .i64 m) ∧ w'.cell? ⟨h, 1, none⟩ = some (.int .i64 u7) ∧ w'.cell? ⟨h, 2, none⟩ = some (.string u8) ∧ w'.cell? ⟨h, 3, none⟩ = some (.bool t9)) (ds := []) #[false, false, false, false, false, false, false, false, false, false, false, false, false, false, false, false, false, false, false, false, false, false, false, false, false, false, false, false] (by kernel_rfl) rfl rfl ⟨c0, c1, c2, d0, d1, d2, k0, k1, k2, k3⟩ (fun hHeld => ?_); refine with_tabW tab18 bits18 (fun HT_ HW_ => ?_)
        generalize (w4.alloc (.cells #[.int .i64 u1, .string u2, .bool u3] 50)).drew = w5 at S18 R18 B18 BA BB hHeld ⊢
        refine pure_ (i := 1) (N := some 83) (v := ?_) (a' := ?_) #[false, true, false, false, false, false, false, false, false, false, false, false, false, false, false, false, false, false, false, false, false, false, false, false, false, false, false, false] rfl rfl (any_of HT_.out (by kernel_rfl)) (fun _ _ _ h => h) (Or.inl ⟨by rfl, ?_⟩) ?_ ?_
        rotate_left
        · intro w'
          go_simp
          with_reducible rfl
        rotate_left
        · simp only [Act.put, List.setIfInBounds_toArray, List.set_cons_zero, List.set_cons_succ, i64_w, i32_w]
          rfl
        refine pure_ (i := 3) (N := some 85) (v := ?_) (a' := ?_) #[false, true, false, true, false, false, false, false, false, false, false, false, false, false, false, false, false, false, false, false, false, false, false, false, false, false, false, false] rfl rfl (any_of HT_.out (by kernel_rfl)) (fun _ _ _ h => h) (Or.inl ⟨by rfl, ?_⟩) ?_ ?_
        rotate_left
        · intro w'
          go_simp
          with_reducible rfl
        rotate_left
        · simp only [Act.put, List.setIfInBounds_toArray, List.set_cons_zero, List.set_cons_succ, i64_w, i32_w]
          rfl
        refine pure_ (i := 5) (N := some 87) (v := ?_) (a' := ?_) #[false, true, false, true, false, true, false, false, false, false, false, false, false, false, false, false, false, false, false, false, false, false, false, false, false, false, false, false] rfl rfl (any_of HT_.out (by kernel_rfl)) (fun _ _ _ h => h) (Or.inl ⟨by rfl, ?_⟩) ?_ ?_
        rotate_left
        · intro w'
          go_simp
          with_reducible rfl
        rotate_left
        · simp only [Act.put, List.setIfInBounds_toArray, List.set_cons_zero, List.set_cons_succ, i64_w, i32_w]
          rfl
        refine take_ (i := 0) (N := some 82) (v := ?_) (a' := ?_) #[true, true, false, true, false, true, false, false, false, false, false, false, false, false, false, false, false, false, false, false, false, false, false, false, false, false, false, false] rfl rfl (take_ofW HT_.out HW_.out (by kernel_rfl)) (fun _ _ _ h => h) (Or.inl ⟨by rfl, ?_⟩) hHeld ?_ ?_
        rotate_left
        · rintro w' ⟨s0, s1, s2, s3, s4, s5, s6, s7, s8, s9⟩
          go_simp
          with_reducible rfl
        rotate_left
        · simp only [Act.put, List.setIfInBounds_toArray, List.set_cons_zero, List.set_cons_succ, i64_w, i32_w]
          rfl
        refine take_ (i := 2) (N := some 84) (v := ?_) (a' := ?_) #[true, true, true, true, false, true, false, false, false, false, false, false, false, false, false, false, false, false, false, false, false, false, false, false, false, false, false, false] rfl rfl (take_ofW HT_.out HW_.out (by kernel_rfl)) (fun _ _ _ h => h) (Or.inl ⟨by rfl, ?_⟩) hHeld ?_ ?_
        rotate_left
        · rintro w' ⟨s0, s1, s2, s3, s4, s5, s6, s7, s8, s9⟩
          go_simp
          with_reducible rfl
        rotate_left
        · simp only [Act.put, List.setIfInBounds_toArray, List.set_cons_zero, List.set_cons_succ, i64_w, i32_w]
          rfl
        refine take_ (i := 4) (N := some 86) (v := ?_) (a' := ?_) #[true, true, true, true, true, true, false, false, false, false, false, false, false, false, false, false, false, false, false, false, false, false, false, false, false, false, false, false] rfl rfl (take_ofW HT_.out HW_.out (by kernel_rfl)) (fun _ _ _ h => h) (Or.inl ⟨by rfl, ?_⟩) hHeld ?_ ?_
        rotate_left
        · rintro w' ⟨s0, s1, s2, s3, s4, s5, s6, s7, s8, s9⟩
          go_simp
          with_reducible rfl
        rotate_left
        · simp only [Act.put, List.setIfInBounds_toArray, List.set_cons_zero, List.set_cons_succ, i64_w, i32_w]
          rfl
        refine take_ (i := 6) (N := some 88) (v := ?_) (a' := ?_) #[true, true, true, true, true, true, true, false, false, false, false, false, false, false, false, false, false, false, false, false, false, false, false, false, false, false, false, false] rfl rfl (take_ofW HT_.out HW_.out (by kernel_rfl)) (fun _ _ _ h => h) (Or.inl ⟨by rfl, ?_⟩) hHeld ?_ ?_
        rotate_left
        · rintro w' ⟨s0, s1, s2, s3, s4, s5, s6, s7, s8, s9⟩
          go_simp
          with_reducible rfl
        rotate_left
        · simp only [Act.put, List.setIfInBounds_toArray, List.set_cons_zero, List.set_cons_succ, i64_w, i32_w]
          rfl
        refine pure_ (i := 7) (N := some 89) (v := ?_) (a' := ?_) #[true, true, true, true, true, true, true, true, false, false, false, false, false, false, false, false, false, false, false, false, false, false, false, false, false, false, false, false] rfl rfl (any_of HT_.out (by kernel_rfl)) (fun _ _ _ h => h) (Or.inl ⟨by rfl, ?_⟩) ?_ ?_
        rotate_left
        · intro w'
          go_simp
          with_reducible rfl
        rotate_left
        · simp only [Act.put, List.setIfInBounds_toArray, List.set_cons_zero, List.set_cons_succ, i64_w, i32_w]
          rfl
        refine pure_ (i := 8) (N := some 90) (v := ?_) (a' := ?_) #[true, true, true, true, true, true, true, true, true, false, false, false, false, false, false, false, false, false, false, false, false, false, false, false, false, false, false, false] rfl rfl (any_of HT_.out (by kernel_rfl)) (fun _ _ _ h => h) (Or.inl ⟨by rfl, ?_⟩) ?_ ?_
        rotate_left
        · intro w'
          go_simp
          with_reducible rfl
        rotate_left
        · simp only [Act.put, List.setIfInBounds_toArray, List.set_cons_zero, List.set_cons_succ, i64_w, i32_w]
          rfl
        refine pure_ (i := 9) (N := some 91) (v := ?_) (a' := ?_) #[true, true, true, true, true, true, true, true, true, true, false, false, false, false, false, false, false, false, false, false, false, false, false, false, false, false, false, false] rfl rfl (any_of HT_.out (by kernel_rfl)) (fun _ _ _ h => h) (Or.inl ⟨by rfl, ?_⟩) ?_ ?_
        rotate_left
        · intro w'
          go_simp
          with_reducible rfl
        rotate_left
        · simp only [Act.put, List.setIfInBounds_toArray, List.set_cons_zero, List.set_cons_succ, i64_w, i32_w]
          rfl
        refine pure_ (i := 10) (N := some 92) (v := ?_) (a' := ?_) #[true, true, true, true, true, true, true, true, true, true, true, false, false, false, false, false, false, false, false, false, false, false, false, false, false, false, false, false] rfl rfl (any_of HT_.out (by kernel_rfl)) (fun _ _ _ h => h) (Or.inl ⟨by rfl, ?_⟩) ?_ ?_
        rotate_left
        · intro w'
          go_simp
          with_reducible rfl
        rotate_left
        · simp only [Act.put, List.setIfInBounds_toArray, List.set_cons_zero, List.set_cons_succ, i64_w, i32_w]
          rfl
        refine pure_ (i := 11) (N := some 93) (v := ?_) (a' := ?_) #[true, true, true, true, true, true, true, true, true, true, true, true, false, false, false, false, false, false, false, false, false, false, false, false, false, false, false, false] rfl rfl (any_of HT_.out (by kernel_rfl)) (fun _ _ _ h => h) (Or.inl ⟨by rfl, ?_⟩) ?_ ?_
        rotate_left
        · intro w'
          go_simp
          with_reducible rfl
        rotate_left
        · simp only [Act.put, List.setIfInBounds_toArray, List.set_cons_zero, List.set_cons_succ, i64_w, i32_w]
          rfl
        refine pure_ (i := 12) (N := some 94) (v := ?_) (a' := ?_) #[true, true, true, true, true, true, true, true, true, true, true, true, true, false, false, false, false, false, false, false, false, false, false, false, false, false, false, false] rfl rfl (any_of HT_.out (by kernel_rfl)) (fun _ _ _ h => h) (Or.inl ⟨by rfl, ?_⟩) ?_ ?_
        rotate_left
        · intro w'
          go_simp
          with_reducible rfl
        rotate_left
        · simp only [Act.put, List.setIfInBounds_toArray, List.set_cons_zero, List.set_cons_succ, i64_w, i32_w]
          rfl
        refine pure_ (i := 13) (N := some 95) (v := ?_) (a' := ?_) #[true, true, true, true, true, true, true, true, true, true, true, true, true, true, false, false, false, false, false, false, false, false, false, false, false, false, false, false] rfl rfl (any_of HT_.out (by kernel_rfl)) (fun _ _ _ h => h) (Or.inl ⟨by rfl, ?_⟩) ?_ ?_
        rotate_left
        · intro w'
          go_simp
          with_reducible rfl
        rotate_left
        · simp only [Act.put, List.setIfInBounds_toArray, List.set_cons_zero, List.set_cons_succ, i64_w, i32_w]
          rfl
        refine pure_ (i := 14) (N := some 96) (v := ?_) (a' := ?_) #[true, true, true, true, true, true, true, true, true, true, true, true, true, true, true, false, false, false, false, false, false, false, false, false, false, false, false, false] rfl rfl (any_of HT_.out (by kernel_rfl)) (fun _ _ _ h => h) (Or.inl ⟨by rfl, ?_⟩) ?_ ?_
        rotate_left
        · intro w'
          go_simp
          with_reducible rfl
        rotate_left
        · simp only [Act.put, List.setIfInBounds_toArray, List.set_cons_zero, List.set_cons_succ, i64_w, i32_w]
          rfl
        refine pure_ (i := 15) (N := some 97) (v := ?_) (a' := ?_) #[true, true, true, true, true, true, true, true, true, true, true, true, true, true, true, true, false, false, false, false, false, false, false, false, false, false, false, false] rfl rfl (any_of HT_.out (by kernel_rfl)) (fun _ _ _ h => h) (Or.inl ⟨by rfl, ?_⟩) ?_ ?_
        rotate_left
        · intro w'
          go_simp
          with_reducible rfl
        rotate_left
        · simp only [Act.put, List.setIfInBounds_toArray, List.set_cons_zero, List.set_cons_succ, i64_w, i32_w]
          rfl
        refine pure_ (i := 16) (N := some 98) (v := ?_) (a' := ?_) #[true, true, true, true, true, true, true, true, true, true, true, true, true, true, true, true, true, false, false, false, false, false, false, false, false, false, false, false] rfl rfl (any_of HT_.out (by kernel_rfl)) (fun _ _ _ h => h) (Or.inl ⟨by rfl, ?_⟩) ?_ ?_
        rotate_left
        · intro w'
          go_simp
          with_reducible rfl
        rotate_left
        · simp only [Act.put, List.setIfInBounds_toArray, List.set_cons_zero, List.set_cons_succ, i64_w, i32_w]
          rfl
        refine pure_ (i := 17) (N := some 99) (v := ?_) (a' := ?_) #[true, true, true, true, true, true, true, true, true, true, true, true, true, true, true, true, true, true, false, false, false, false, false, false, false, false, false, false] rfl rfl (any_of HT_.out (by kernel_rfl)) (fun _ _ _ h => h) (Or.inl ⟨by rfl, ?_⟩) ?_ ?_
        rotate_left
        · intro w'
          go_simp
          with_reducible rfl
        rotate_left
        · simp only [Act.put, List.setIfInBounds_toArray, List.set_cons_zero, List.set_cons_succ, i64_w, i32_w]
          rfl
        refine pure_ (i := 18) (N := some 100) (v := ?_) (a' := ?_) #[true, true, true, true, true, true, true, true, true, true, true, true, true, true, true, true, true, true, true, false, false, false, false, false, false, false, false, false] rfl rfl (any_of HT_.out (by kernel_rfl)) (fun _ _ _ h => h) (Or.inl ⟨by rfl, ?_⟩) ?_ ?_
        rotate_left
        · intro w'
          go_simp
          with_reducible rfl
        rotate_left
        · simp only [Act.put, List.setIfInBounds_toArray, List.set_cons_zero, List.set_cons_succ, i64_w, i32_w]
          rfl
        refine pure_ (i := 19) (N := some 101) (v := ?_) (a' := ?_) #[true, true, true, true, true, true, true, true, true, true, true, true, true, true, true, true, true, true, true, true, false, false, false, false, false, false, false, false] rfl rfl (any_of HT_.out (by kernel_rfl)) (fun _ _ _ h => h) (Or.inl ⟨by rfl, ?_⟩) ?_ ?_
        rotate_left
        · intro w'
          go_simp
          with_reducible rfl
        rotate_left
        · simp only [Act.put, List.setIfInBounds_toArray, List.set_cons_zero, List.set_cons_succ, i64_w, i32_w]
          rfl
        refine pure_ (i := 20) (N := some 102) (v := ?_) (a' := ?_) #[true, true, true, true, true, true, true, true, true, true, true, true, true, true, true, true, true, true, true, true, true, false, false, false, false, false, false, false] rfl rfl (any_of HT_.out (by kernel_rfl)) (fun _ _ _ h => h) (Or.inl ⟨by rfl, ?_⟩) ?_ ?_
        rotate_left
        · intro w'
          go_simp
          with_reducible rfl
        rotate_left
        · simp only [Act.put, List.setIfInBounds_toArray, List.set_cons_zero, List.set_cons_succ, i64_w, i32_w]
          rfl
        refine pure_ (i := 22) (N := some 104) (v := ?_) (a' := ?_) #[true, true, true, true, true, true, true, true, true, true, true, true, true, true, true, true, true, true, true, true, true, false, true, false, false, false, false, false] rfl rfl (any_of HT_.out (by kernel_rfl)) (fun _ _ _ h => h) (Or.inl ⟨by rfl, ?_⟩) ?_ ?_
        rotate_left
        · intro w'
          go_simp
          with_reducible rfl
        rotate_left
        · simp only [Act.put, List.setIfInBounds_toArray, List.set_cons_zero, List.set_cons_succ, i64_w, i32_w]
          rfl
        refine pure_ (i := 23) (N := some 105) (v := ?_) (a' := ?_) #[true, true, true, true, true, true, true, true, true, true, true, true, true, true, true, true, true, true, true, true, true, false, true, true, false, false, false, false] rfl rfl (any_of HT_.out (by kernel_rfl)) (fun _ _ _ h => h) (Or.inl ⟨by rfl, ?_⟩) ?_ ?_
        rotate_left
        · intro w'
          go_simp
          with_reducible rfl
        rotate_left
        · simp only [Act.put, List.setIfInBounds_toArray, List.set_cons_zero, List.set_cons_succ, i64_w, i32_w]
          rfl
        refine pure_ (i := 24) (N := some 106) (v := ?_) (a' := ?_) #[true, true, true, true, true, true, true, true, true, true, true, true, true, true, true, true, true, true, true, true, true, false, true, true, true, false, false, false] rfl rfl (any_of HT_.out (by kernel_rfl)) (fun _ _ _ h => h) (Or.inl ⟨by rfl, ?_⟩) ?_ ?_
        rotate_left
        · intro w'
          go_simp
          with_reducible rfl
        rotate_left
        · simp only [Act.put, List.setIfInBounds_toArray, List.set_cons_zero, List.set_cons_succ, i64_w, i32_w]
          rfl
        refine take_ (i := 25) (N := some 107) (v := ?_) (a' := ?_) #[true, true, true, true, true, true, true, true, true, true, true, true, true, true, true, true, true, true, true, true, true, false, true, true, true, true, false, false] rfl rfl (take_ofW HT_.out HW_.out (by kernel_rfl)) (fun _ _ _ h => h) (Or.inl ⟨by rfl, ?_⟩) hHeld ?_ ?_
        rotate_left
        · rintro w' ⟨s0, s1, s2, s3, s4, s5, s6, s7, s8, s9⟩
          go_simp
          with_reducible rfl
        rotate_left
        · simp only [Act.put, List.setIfInBounds_toArray, List.set_cons_zero, List.set_cons_succ, i64_w, i32_w]
          rfl
        refine one_ (i := 21) (N := some 103) #[true, true, true, true, true, true, true, true, true, true, true, true, true, true, true, true, true, true, true, true, true, true, true, true, true, true, false, false] rfl rfl (one_of HT_.out (by kernel_rfl)) (by decide) (fun K hK => ?_)
        refine goes_ Try.func17 (by kernel_rfl) rfl #[.pointer (some ⟨g, 0, none⟩)] (by rfl) rfl rfl (by (try simp only [List.map_toArray, List.map_cons, List.map_nil]); first | done | rfl) ?_
        with_reducible refine (HO _ ?side1 ?side2).mono ?_
        (case side1 => repeat (first | (with_reducible first | exact S18.out | apply IsS63.drewN | apply IsS63.drew) | exact S18.out))
        (case side2 => repeat (first | (with_reducible first | exact B18.out | apply pw_below_drewN | apply below_drew1) | exact B18.out))
        rintro e w6 ⟨rfl, hI6, hB6, hk6⟩
        refine ⟨_, rfl, ?_⟩
        have BA6 := KeepBut.blk hk6 (by (with_reducible repeat (first | refine blk_drewN ?_ _ | refine blk_drew ?_)); exact BA.out) nA.out (by simp)
        have BB6 := KeepBut.blk hk6 (by (with_reducible repeat (first | refine blk_drewN ?_ _ | refine blk_drew ?_)); exact BB.out) nB.out (by simp)
        have BR6 := KeepBut.blk hk6 (by (with_reducible repeat (first | refine blk_drewN ?_ _ | refine blk_drew ?_)); exact R18.out.1) (fun e => hgh.out e.symm) (by simp)
        refine hK.out _ _ ⟨(blk_cell BA6 0).trans rfl, (blk_cell BA6 1).trans rfl, (blk_cell BA6 2).trans rfl, (blk_cell BB6 0).trans rfl, (blk_cell BB6 1).trans rfl, (blk_cell BB6 2).trans rfl, (blk_cell BR6 0).trans rfl, (blk_cell BR6 1).trans rfl, (blk_cell BR6 2).trans rfl, (blk_cell BR6 3).trans rfl⟩ (fun hHeld => ?_)
        clear hK K
        refine norm_ (a' := ?_) ?_ ?_
        rotate_left
        · show Act.put _ (some 103) _ = _
          simp only [Act.put, List.setIfInBounds_toArray, List.set_cons_zero, List.set_cons_succ, i64_w, i32_w]
          rfl
        refine pure_ (i := 26) (N := some 108) (v := ?_) (a' := ?_) #[true, true, true, true, true, true, true, true, true, true, true, true, true, true, true, true, true, true, true, true, true, true, true, true, true, true, true, false] rfl rfl (any_of HT_.out (by kernel_rfl)) (fun _ _ _ h => h) (Or.inl ⟨by rfl, ?_⟩) ?_ ?_
        rotate_left
        · intro w'
          go_simp
          with_reducible rfl
        rotate_left
        · simp only [Act.put, List.setIfInBounds_toArray, List.set_cons_zero, List.set_cons_succ, i64_w, i32_w]
          rfl
        refine pure_ (i := 27) (N := some 109) (v := ?_) (a' := ?_) #[true, true, true, true, true, true, true, true, true, true, true, true, true, true, true, true, true, true, true, true, true, true, true, true, true, true, true, true] rfl rfl (any_of HT_.out (by kernel_rfl)) (fun _ _ _ h => h) (Or.inl ⟨by rfl, ?_⟩) ?_ ?_
        rotate_left
        · intro w'
          go_simp
          with_reducible rfl
        rotate_left
        · simp only [Act.put, List.setIfInBounds_toArray, List.set_cons_zero, List.set_cons_succ, i64_w, i32_w]
          rfl
        refine done_ (done_of HT_.out (by kernel_rfl)) ?_
        try go_wp2
        exact ⟨⟨i + 1, u7, u8, u9, t9, congrArg _ hwrap.out, ⟨⟨by have := hi.out; omega, hI6, ⟨BR6, HP.out.r.2⟩, hB6, hsz.out, hid.out, hen.out⟩⟩⟩, meas _ i hi.out hwrap.out⟩
    · have hi1 : decide ((i : Int) < (l.length : Int)) = false := decide_eq_false hi
      go_wp2
      go_ret
      exact ⟨rfl, HP.out.below⟩
theorem BlockPlays_all (W : World) (m : Int) (A : Option Addr) (c : Nat) (l : List SF) (hr : Kd.C kF W A l.length l) (hc : l.length ≤ c) :
    Calls Try.prog 4 #[.int .i64 m, .slice A l.length c] W fun e w' => e = .returned (.bool true) ∧ Below W.heap.size W w' := by
  cases h80 : decide ((80 : Int) < (l.length : Int))
  · cases hm : decide (m < 1)
    · exact plays_walk W m l A c hr hc h80 hm
    · exact plays_nil W m l A c h80 hm
  · exact plays_alive W m l A c h80
end Go.Proofs.Ytdonanibfifodaa.Close
