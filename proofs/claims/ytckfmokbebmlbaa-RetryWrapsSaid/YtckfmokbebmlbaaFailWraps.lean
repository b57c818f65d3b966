/- The law RetryWraps answers true: the walk. Conditions: none. -/
import Derived.Test.YtckfmokbebmlbaaFailErr
import Derived.Test.YtckfmokbebmlbaaFailPath
import Derived.Test.YtckfmokbebmlbaaFailStr
import Derived.Test.YtckfmokbebmlbaaPRetryWrapsx1
namespace Go.Proofs.Ytckfmokbebmlbaa.Fail
open Go.RowKit Go.Extern.Stop Go.Stop Go.Extern Go.Proofs.YtckfmokbebmlbaaW.PrintWords Go.Proofs.YtckfmokbebmlbaaW.PrintLast Go.Proofs.YtckfmokbebmlbaaW.PrintMore
set_option linter.unusedVariables false
set_option linter.unusedSimpArgs false

theorem same_l0 (l : List ByteArray) (hl : l.length ≤ 100) (d : Nat) : ∀ i : Nat, l.length - i = d → PRetryWraps.bywashbook_SameTexts.l0 (d + 1) l l (i : Int) = some true := by
  induction d with
  | zero =>
    intro i hd
    simp only [PRetryWraps.bywashbook_SameTexts.l0]
    rw [if_neg (by omega)]
  | succ d ih =>
    intro i hd
    rw [PRetryWraps.bywashbook_SameTexts.l0]
    rw [if_pos (by omega), if_pos (by omega), if_pos (by omega), if_pos rfl, show wrap64 ((i : Int) + 1) = ((i + 1 : Nat) : Int) from by unfold wrap64; omega]
    exact ih (i + 1) (by omega)
theorem same_texts (l : List ByteArray) (hl : l.length ≤ 100) : PRetryWraps.bywashbook_SameTexts.f (l.length + 1) l l = some true := by
  unfold PRetryWraps.bywashbook_SameTexts.f
  rw [if_pos rfl]
  exact same_l0 l hl l.length 0 rfl
theorem C_one (w : World) (g : Nat) (s : ByteArray) (h : w.heap[g]? = some (.cells #[.string s] 9 (0, 0))) : Kd.C Kd.string w (some ⟨g, 0, none⟩) 1 [s] := by
  refine ⟨rfl, by omega, fun _ => ⟨_, rfl, fun j p hj => ?_⟩⟩
  match j, hj with
  | 0, hj =>
    cases hj
    refine ⟨[.string s], rfl, rfl, fun i u hu => ?_⟩
    match i, hu with
    | 0, hu => cases hu; simp [World.cell?, h, Addr.add]
theorem C_two (w : World) (g : Nat) (s t : ByteArray) (h : w.heap[g]? = some (.cells #[.string s, .string t] 9 (0, 0))) : Kd.C Kd.string w (some ⟨g, 0, none⟩) 2 [s, t] := by
  refine ⟨rfl, by omega, fun _ => ⟨_, rfl, fun j p hj => ?_⟩⟩
  match j, hj with
  | 0, hj =>
    cases hj
    refine ⟨[.string s], rfl, rfl, fun i u hu => ?_⟩
    match i, hu with
    | 0, hu => cases hu; simp [World.cell?, h, Addr.add]
  | 1, hj =>
    cases hj
    refine ⟨[.string t], rfl, rfl, fun i u hu => ?_⟩
    match i, hu with
    | 0, hu => cases hu; show w.cell? ((⟨g, 0, none⟩ : Addr).add 1) = _; simp [World.cell?, h, Addr.add]
theorem Is_self (W : World) (B : Nat) (hB : B ≤ W.heap.size) (c : Int) (hc : c ≠ 0) (b : Nat) (l : List (ByteArray × Int)) (hch : Chain W B (err b) l) (hl : (l.any fun x => c == x.2) = true) :
    Calls Try.prog 13 #[err b, err W.heap.size] (W.alloc (failure ⟨#[]⟩ c .nilIface)) fun e w' => e = .returned (.bool true) ∧ Below W.heap.size W w' := by
  have := Is_code W B hB c hc b l hch
  rwa [hl] at this

theorem ops2 (c : Int) : opsL [(sAgain, 23), (sCall, c), (⟨#[]⟩, c)] = [sAgain, sCall] := by
  have h1 : sAgain.toList.isEmpty = false := by decide +kernel
  have h2 : sCall.toList.isEmpty = false := by decide +kernel
  have h3 : (⟨#[]⟩ : ByteArray).toList.isEmpty = true := by decide +kernel
  simp [opsL, h1, h2, h3]
theorem ops1 (c : Int) : opsL [(sCall, c), (⟨#[]⟩, c)] = [sCall] := by
  have h2 : sCall.toList.isEmpty = false := by decide +kernel
  have h3 : (⟨#[]⟩ : ByteArray).toList.isEmpty = true := by decide +kernel
  simp [opsL, h2, h3]
theorem wraps_alive (W : World) (tries : Int) : Calls Try.prog 6 #[.int .i64 0, .int .i64 tries] W fun e w' => e = .returned (.bool true) ∧ Below W.heap.size W w' := by
  go_enter Try.func6, Try.ntmps6
  go_wp2_with ((go_at_call 7; refine (alive_true _).mono ?_; rintro e w1 ⟨rfl, hb1⟩))
  go_ret
  exact ⟨rfl, hb1⟩

theorem wraps_two (W : World) (c tries : Int) (hc : c ≠ 0) (ht : 1 < tries) : Calls Try.prog 6 #[.int .i64 c, .int .i64 tries] W fun e w' => e = .returned (.bool true) ∧ Below W.heap.size W w' := by
  have h0 : (c == 0) = false := by simpa using hc
  have h1 : decide (1 < tries) = true := by simpa using ht
  have HE := fun w => err_some w c tries hc
  rw [show errL c tries = [(sAgain, 23), (sCall, c), (⟨#[]⟩, c)] from if_pos ht] at HE
  clear ht
  go_enter Try.func6, Try.ntmps6
  go_wp2_with (first | (go_at_call 7; refine (alive_true _).mono ?_; rintro e w1 ⟨rfl, hb1⟩) | (go_at_call 10; refine (HE _).mono ?_; rintro e w2 ⟨b, rfl, hch, hb2⟩; clear HE))
  have hP := fun w (hb : Below w2.heap.size w2 w) => Path_chain w w2.heap.size hb.size (err b) _ (by simp) (hch.under hb (Nat.le_refl _))
  rw [ops2] at hP
  go_wp2_with ((go_at_call 12; refine (hP _ ?hbP).mono ?_; (case hbP => exact below2 _ _ _); rintro e w3 ⟨v, rfl, hv, hb3⟩; clear hP))
  have hs3 : w2.heap.size + 1 < ((w2.alloc (.cells #[.string sCall] 9)).alloc (.cells #[.string sAgain, .string sCall] 9)).heap.size := by rw [size_alloc, size_alloc]; omega
  have hw3 : w3.heap[w2.heap.size + 1]? = some (.cells #[.string sAgain, .string sCall] 9 (0, 0)) := (hb3.block (w2.heap.size + 1) hs3).trans (by have h_ := heap_new (w2.alloc (.cells #[.string sCall] 9)) (.cells #[.string sAgain, .string sCall] 9); rw [size_alloc] at h_; exact h_)
  have hb23 := below_trans (below2 w2 _ _) hb3
  obtain ⟨A, cp, rfl⟩ := Kd.R_slice hv
  have hC := Kd.R_reads' hv
  have hS := PRetryWraps.bywashbook_SameTexts.calls 3 A cp [sAgain, sCall] (some ⟨w2.heap.size + 1, 0, none⟩) 2 [sAgain, sCall] true w3 hC.2.2 hC.2.1 (C_two _ _ _ _ hw3) (Nat.le_refl _) (same_texts [sAgain, sCall] (by decide))
  clear hs3 hw3 hv hC hb3
  go_wp2_with ((go_at_call 11; refine hS.mono ?_; rintro e w4 ⟨rfl, ⟨n, rfl⟩⟩; clear hS))
  have hb24 := below_drewN hb23 n
  have hI := Is_self (w3.drewN n) w2.heap.size hb24.size c hc b _ (hch.under hb24 (Nat.le_refl _)) (by simp)
  go_wp2_with (first | (go_at_call 14; refine (new_some c hc _).mono ?_; rintro e w5 ⟨rfl, rfl⟩) | (go_at_call 13; refine hI.mono ?_; rintro e w6 ⟨rfl, hb6⟩; clear hI))
  have hb26 := below_trans hb24 hb6
  have hJ := fun w (hb : Below w2.heap.size w2 w) t => Is_str w w2.heap.size t b _ (hch.under hb (Nat.le_refl _))
  clear hch
  go_wp2_with (first | (go_at_call 15; refine (new_str _ _).mono ?_; rintro e w7 ⟨rfl, rfl⟩) | (go_at_call 13; refine (hJ _ ?hbJ _).mono ?_; (case hbJ => exact below_trans hb26 (below_new _ _)); rintro e w8 ⟨rfl, m, rfl⟩; clear hJ))
  go_ret
  exact ⟨rfl, below_drewN (below_trans hb1 (below_trans hb2 (below_trans hb26 (below_new _ _)))) _⟩
theorem wraps_one (W : World) (c tries : Int) (hc : c ≠ 0) (ht : ¬ 1 < tries) : Calls Try.prog 6 #[.int .i64 c, .int .i64 tries] W fun e w' => e = .returned (.bool true) ∧ Below W.heap.size W w' := by
  have h0 : (c == 0) = false := by simpa using hc
  have h1 : decide (1 < tries) = false := by simpa using ht
  have HE := fun w => err_some w c tries hc
  rw [show errL c tries = [(sCall, c), (⟨#[]⟩, c)] from if_neg ht] at HE
  clear ht
  go_enter Try.func6, Try.ntmps6
  go_wp2_with (first | (go_at_call 7; refine (alive_true _).mono ?_; rintro e w1 ⟨rfl, hb1⟩) | (go_at_call 10; refine (HE _).mono ?_; rintro e w2 ⟨b, rfl, hch, hb2⟩; clear HE))
  have hP := fun w (hb : Below w2.heap.size w2 w) => Path_chain w w2.heap.size hb.size (err b) _ (by simp) (hch.under hb (Nat.le_refl _))
  rw [ops1] at hP
  go_wp2_with ((go_at_call 12; refine (hP _ ?hbP).mono ?_; (case hbP => exact below_new _ _); rintro e w3 ⟨v, rfl, hv, hb3⟩; clear hP))
  have hs3 : w2.heap.size < (w2.alloc (.cells #[.string sCall] 9)).heap.size := by rw [size_alloc]; omega
  have hw3 : w3.heap[w2.heap.size]? = some (.cells #[.string sCall] 9 (0, 0)) := (hb3.block w2.heap.size hs3).trans (heap_new _ _)
  have hb23 := below_trans (below_new w2 _) hb3
  obtain ⟨A, cp, rfl⟩ := Kd.R_slice hv
  have hC := Kd.R_reads' hv
  have hS := PRetryWraps.bywashbook_SameTexts.calls 2 A cp [sCall] (some ⟨w2.heap.size, 0, none⟩) 1 [sCall] true w3 hC.2.2 hC.2.1 (C_one _ _ _ hw3) (Nat.le_refl _) (same_texts [sCall] (by decide))
  clear hs3 hw3 hv hC hb3
  go_wp2_with ((go_at_call 11; refine hS.mono ?_; rintro e w4 ⟨rfl, ⟨n, rfl⟩⟩; clear hS))
  have hb24 := below_drewN hb23 n
  have hI := Is_self (w3.drewN n) w2.heap.size hb24.size c hc b _ (hch.under hb24 (Nat.le_refl _)) (by simp)
  go_wp2_with (first | (go_at_call 14; refine (new_some c hc _).mono ?_; rintro e w5 ⟨rfl, rfl⟩) | (go_at_call 13; refine hI.mono ?_; rintro e w6 ⟨rfl, hb6⟩; clear hI))
  have hb26 := below_trans hb24 hb6
  have hJ := fun w (hb : Below w2.heap.size w2 w) t => Is_str w w2.heap.size t b _ (hch.under hb (Nat.le_refl _))
  clear hch
  go_wp2_with (first | (go_at_call 15; refine (new_str _ _).mono ?_; rintro e w7 ⟨rfl, rfl⟩) | (go_at_call 13; refine (hJ _ ?hbJ _).mono ?_; (case hbJ => exact below_trans hb26 (below_new _ _)); rintro e w8 ⟨rfl, m, rfl⟩; clear hJ))
  go_ret
  exact ⟨rfl, below_drewN (below_trans hb1 (below_trans hb2 (below_trans hb26 (below_new _ _)))) _⟩
theorem RetryWraps_all (W : World) (c tries : Int) : Calls Try.prog 6 #[.int .i64 c, .int .i64 tries] W fun e w' => e = .returned (.bool true) ∧ Below W.heap.size W w' := by
  by_cases hc : c = 0
  · subst hc; exact wraps_alive W tries
  · by_cases ht : 1 < tries
    · exact wraps_two W c tries hc ht
    · exact wraps_one W c tries hc ht
end Go.Proofs.Ytckfmokbebmlbaa.Fail
