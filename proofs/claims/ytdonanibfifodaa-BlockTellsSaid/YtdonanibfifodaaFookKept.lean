/- The book and its lists in memory; still. Conditions: those that each names. -/
import Derived.Test.YtdonanibfifodaaFookBase
namespace Go.Proofs.Ytdonanibfifodaa.Book
open Go.RowKit Go.Proofs.YtdonanibfifodaaW.PrintWords Go.Proofs.YtdonanibfifodaaW.PrintLast Go.Proofs.YtdonanibfifodaaW.PrintMore Go.Proofs.Ytdonanibfifodaa.Aid Go.Proofs.Ytdonanibfifodaa.PBlockTells
set_option linter.unusedVariables false
set_option linter.unusedSimpArgs false

/-- The book's cells. -/
def cellsB (P Q : Value) : Array Value := #[.slice none 0 0, .slice none 0 0, .slice none 0 0, .slice none 0 0, .slice none 0 0, .slice none 0 0, P, Q, .slice none 0 0, .slice none 0 0]
/-- The book at g, its k lists v, what they hold. -/
structure Bp (w0 w : World) (g : Nat) (P Q : Value) (k : Nat) (v : Nat → Value) (c : Nat → List E) : Prop where
  blk : w.heap[g]? = some (.cells (cellsB P Q) 33 (0, 0))
  rp : w.ownsRow w0.heap.size 23 1 P k ((List.range k).map v)
  ov : ∀ j, j < k → Own w w0.heap.size (v j) (c j)
  av : ∀ i j, i < k → j < k → i ≠ j → ∀ b, (v i).ownBlock = some b → (v j).ownBlock ≠ some b
  ge : w0.heap.size ≤ g
  below : Below w0.heap.size w0 w
  len : ∀ j, j < k → (c j).length ≤ 100
/-- .. and the copies. -/
structure Bk (w0 w : World) (g : Nat) (P Q : Value) (k : Nat) (v u : Nat → Value) (c : Nat → List E) : Prop where
  bp : Bp w0 w g P Q k v c
  rq : w.ownsRow w0.heap.size 23 1 Q k ((List.range k).map u)
  ou : ∀ j, j < k → Own w w0.heap.size (u j) (c j)
  pq : ∀ b, P.ownBlock = some b → Q.ownBlock ≠ some b
theorem own_drewN {w : World} {base : Nat} {v : Value} {xs : List E} (h : Own w base v xs) (n : Nat) : Own (w.drewN n) base v xs := h.step (fun _ _ => rfl)
theorem Bp.drewN {w0 w : World} {g : Nat} {P Q : Value} {k : Nat} {v : Nat → Value} {c : Nat → List E} (h : Bp w0 w g P Q k v c) (n : Nat) : Bp w0 (w.drewN n) g P Q k v c :=
  ⟨h.blk, h.rp, fun j hj => own_drewN (h.ov j hj) n, h.av, h.ge, pw_below_drewN h.below n, h.len⟩
theorem Bk.drewN {w0 w : World} {g : Nat} {P Q : Value} {k : Nat} {v u : Nat → Value} {c : Nat → List E} (h : Bk w0 w g P Q k v u c) (n : Nat) : Bk w0 (w.drewN n) g P Q k v u c :=
  ⟨h.bp.drewN n, h.rq, fun j hj => own_drewN (h.ou j hj) n, h.pq⟩
theorem Bp.cellP {w0 w : World} {g : Nat} {P Q : Value} {k : Nat} {v : Nat → Value} {c : Nat → List E} (h : Bp w0 w g P Q k v c) : w.cell? ⟨g, 6, none⟩ = some P := (blk_cell h.blk 6).trans rfl
theorem Bp.cellQ {w0 w : World} {g : Nat} {P Q : Value} {k : Nat} {v : Nat → Value} {c : Nat → List E} (h : Bp w0 w g P Q k v c) : w.cell? ⟨g, 7, none⟩ = some Q := (blk_cell h.blk 7).trans rfl
/-- A row of headers: where it lies, what its cells are. -/
theorem heads {w : World} {base : Nat} {P : Value} {k : Nat} {v : Nat → Value} (h : w.ownsRow base 23 1 P k ((List.range k).map v)) (i : Nat) (hi : i < k) : ∃ ad cap, P = .slice (some ad) k cap ∧ w.cell? (ad.add i) = some (v i) := by
  obtain ⟨A, cap, rfl⟩ := own_slice h
  rcases A with _ | ad
  · rcases h.2 with ⟨hn, hk⟩ | ⟨g, cap', cur, hn, _⟩
    · omega
    · cases hn
  · refine ⟨ad, cap, rfl, ?_⟩
    have hc := h.cells (g := ad.block) (by simp [Value.ownBlock]) i (v i) (by simp [hi])
    rcases h.2 with ⟨hn, hk⟩ | ⟨g, cap', cur, hn, _⟩
    · cases hn
    · injection hn with ha _ _
      injection ha with ha
      subst ha
      exact hc

theorem meas (n i : Nat) (hi : i < n) (hw : wrap64 ((i : Int) + 1) = ((i + 1 : Nat) : Int)) : n - (intOf (.int .i64 (wrap64 ((i : Int) + 1)))).toNat < n - (intOf (.int .i64 (i : Int))).toNat := by
  rw [hw]
  show n - (((i + 1 : Nat) : Int)).toNat < n - ((i : Int)).toNat
  omega
theorem Drawn0.drewN {w w' : World} (h : Drawn0 w w') (n : Nat) : Drawn0 w (w'.drewN n) := h.step n
def Tr26_4 : Bool × List (List Nat × List Nat) := (true, [([], []), ([0], [0]), ([1], [1]), ([2], [2]), ([], []), ([3, 4], [3, 4]), ([5], [5]), ([], []), ([7], [7]), ([8], [8]), ([9], [9]), ([], []), ([10, 11], [10, 11]), ([12], [12]), ([6, 13], [6, 13]), ([14], [14])])
def Br26_4 : List Nat := [0, 1, 3, 7, 0, 31, 63, 0, 128, 384, 896, 0, 3968, 8064, 16383, 32767]
theorem tabr26_4 : rtab .any (opsOf Try.f26 4) = Tr26_4 := by kernel_rfl
theorem bitsr26_4 : waitsOk Tr26_4.2 Br26_4 = true := by kernel_rfl

set_option maxHeartbeats 1000000 in
set_option maxRecDepth 100000 in
theorem still_any (w0 w : World) (g : Nat) (P Q : Value) (k : Nat) (v u : Nat → Value) (c : Nat → List E) (H : Bk w0 w g P Q k v u c) (hk : k ≤ 10) : Calls Try.prog 26 #[.pointer (some ⟨g, 0, none⟩)] w fun e w' => e = .returned (.bool true) ∧ Drawn0 w w' := by
  have H0 := Aside0.mk H
  have hk0 := Aside0.mk hk
  clear H hk
  obtain ⟨AP, capP, rfl⟩ := own_slice H0.out.bp.rp
  obtain ⟨AQ, capQ, rfl⟩ := own_slice H0.out.rq
  go_enter Try.func26, Try.ntmps26
  go_wp2
  go_loopw [3] (fun t wl => ∃ (i : Nat), t = .int .i64 (i : Int) ∧ Aside0 (i ≤ k ∧ Bk w0 wl g (.slice AP k capP) (.slice AQ k capQ) k v u c ∧ Drawn0 w wl)) (fun t _ => k - (intOf t).toNat)
  case atStart => exact ⟨0, rfl, ⟨⟨Nat.zero_le _, H0.out, Drawn0.refl w⟩⟩⟩
  case round =>
    obtain ⟨i, rfl, HR⟩ := hrel
    have e8 := HR.out.2.1.bp.cellP
    by_cases hik : i < k
    · have hi1 : decide ((i : Int) < (k : Int)) = true := decide_eq_true (by omega)
      have hi2 : decide ((i : Int) < 0) = false := decide_eq_false (by omega)
      obtain ⟨adP, cp', eP, hP⟩ := heads HR.out.2.1.bp.rp i hik
      obtain ⟨adQ, cq', eQ, hQ⟩ := heads HR.out.2.1.rq i hik
      injection eP with eA _ eC
      subst eA; subst eC
      injection eQ with eA _ eC
      subst eA; subst eC
      obtain ⟨A1, c1, ev, hc1, hr1⟩ := ((HR.out.2.1.bp.ov i hik).reads).out
      obtain ⟨A2, c2, eu, hc2, hr2⟩ := ((HR.out.2.1.ou i hik).reads).out
      rw [ev] at hP
      rw [eu] at hQ
      have e9 := HR.out.2.1.bp.cellQ
      obtain ⟨K, hK⟩ := same_ev (c i) (Nat.le_trans (HR.out.2.1.bp.len i hik) (by decide))
      have HS := fun (W : World) (h1 : kE.C W A1 (c i).length (c i)) (h2 : kE.C W A2 (c i).length (c i)) => bywashbook_SameFrames.calls K A1 c1 (c i) A2 c2 (c i) true W h1 hc1 h2 hc2 (hK K (Nat.le_refl _))
      have hwrap := Aside0.mk (show wrap64 ((i : Int) + 1) = ((i + 1 : Nat) : Int) from by unfold wrap64; have := hk0.out; omega)
      have hik := Aside0.mk hik
      clear hK ev eu hc1 hc2
      have HC1 := Aside0.mk (Kd.C_drew hr1)
      have HC2 := Aside0.mk (Kd.C_drew hr2)
      have HR1 := Aside0.mk (show i + 1 ≤ k ∧ Bk w0 wr.drew g (.slice (some adP) k capP) (.slice (some adQ) k capQ) k v u c ∧ Drawn0 w wr.drew from ⟨hik.out, HR.out.2.1.drewN 1, HR.out.2.2.step 1⟩)
      clear hr1 hr2
      go_wp2
      refine start_ (n := 16) (S := (fun w' => w'.cell? ⟨g, 6, none⟩ = some (.slice (some adP) k capP) ∧ w'.cell? ⟨g, 7, none⟩ = some (.slice (some adQ) k capQ) ∧ w'.cell? (adP.add i) = some (.slice A1 (c i).length c1) ∧ w'.cell? (adQ.add i) = some (.slice A2 (c i).length c2))) (ds := []) #[false, false, false, false, false, false, false, false, false, false, false, false, false, false, false, false] (by kernel_rfl) rfl rfl (⟨e8, e9, hP, hQ⟩) (fun hHeld => ?_)
      refine with_tabW tabr26_4 bitsr26_4 (fun HT_ HW_ => ?_)
      generalize wr.drew = w1 at HC1 HC2 HR1 hHeld ⊢
      refine pure_ (i := 0) (N := some 13) (v := ?_) (a' := ?_) #[true, false, false, false, false, false, false, false, false, false, false, false, false, false, false, false] rfl rfl (any_of HT_.out (by kernel_rfl)) (fun _ _ _ h => h) (Or.inl ⟨by rfl, ?_⟩) ?_ ?_
      rotate_left
      · intro w'
        go_simp
        with_reducible rfl
      rotate_left
      · simp only [Act.put, List.setIfInBounds_toArray, List.set_cons_zero, List.set_cons_succ, i64_w, i32_w]
        rfl
      refine pure_ (i := 1) (N := some 14) (v := ?_) (a' := ?_) #[true, true, false, false, false, false, false, false, false, false, false, false, false, false, false, false] rfl rfl (any_of HT_.out (by kernel_rfl)) (fun _ _ _ h => h) (Or.inl ⟨by rfl, ?_⟩) ?_ ?_
      rotate_left
      · intro w'
        go_simp
        with_reducible rfl
      rotate_left
      · simp only [Act.put, List.setIfInBounds_toArray, List.set_cons_zero, List.set_cons_succ, i64_w, i32_w]
        rfl
      refine pure_ (i := 2) (N := some 15) (v := ?_) (a' := ?_) #[true, true, true, false, false, false, false, false, false, false, false, false, false, false, false, false] rfl rfl (any_of HT_.out (by kernel_rfl)) (fun _ _ _ h => h) (Or.inl ⟨by rfl, ?_⟩) ?_ ?_
      rotate_left
      · intro w'
        go_simp
        with_reducible rfl
      rotate_left
      · simp only [Act.put, List.setIfInBounds_toArray, List.set_cons_zero, List.set_cons_succ, i64_w, i32_w]
        rfl
      refine pure_ (i := 4) (N := some 17) (v := ?_) (a' := ?_) #[true, true, true, false, true, false, false, false, false, false, false, false, false, false, false, false] rfl rfl (any_of HT_.out (by kernel_rfl)) (fun _ _ _ h => h) (Or.inl ⟨by rfl, ?_⟩) ?_ ?_
      rotate_left
      · intro w'
        go_simp
        with_reducible rfl
      rotate_left
      · simp only [Act.put, List.setIfInBounds_toArray, List.set_cons_zero, List.set_cons_succ, i64_w, i32_w]
        rfl
      refine pure_ (i := 7) (N := some 20) (v := ?_) (a' := ?_) #[true, true, true, false, true, false, false, true, false, false, false, false, false, false, false, false] rfl rfl (any_of HT_.out (by kernel_rfl)) (fun _ _ _ h => h) (Or.inl ⟨by rfl, ?_⟩) ?_ ?_
      rotate_left
      · intro w'
        go_simp
        with_reducible rfl
      rotate_left
      · simp only [Act.put, List.setIfInBounds_toArray, List.set_cons_zero, List.set_cons_succ, i64_w, i32_w]
        rfl
      refine pure_ (i := 8) (N := some 21) (v := ?_) (a' := ?_) #[true, true, true, false, true, false, false, true, true, false, false, false, false, false, false, false] rfl rfl (any_of HT_.out (by kernel_rfl)) (fun _ _ _ h => h) (Or.inl ⟨by rfl, ?_⟩) ?_ ?_
      rotate_left
      · intro w'
        go_simp
        with_reducible rfl
      rotate_left
      · simp only [Act.put, List.setIfInBounds_toArray, List.set_cons_zero, List.set_cons_succ, i64_w, i32_w]
        rfl
      refine pure_ (i := 9) (N := some 22) (v := ?_) (a' := ?_) #[true, true, true, false, true, false, false, true, true, true, false, false, false, false, false, false] rfl rfl (any_of HT_.out (by kernel_rfl)) (fun _ _ _ h => h) (Or.inl ⟨by rfl, ?_⟩) ?_ ?_
      rotate_left
      · intro w'
        go_simp
        with_reducible rfl
      rotate_left
      · simp only [Act.put, List.setIfInBounds_toArray, List.set_cons_zero, List.set_cons_succ, i64_w, i32_w]
        rfl
      refine pure_ (i := 11) (N := some 24) (v := ?_) (a' := ?_) #[true, true, true, false, true, false, false, true, true, true, false, true, false, false, false, false] rfl rfl (any_of HT_.out (by kernel_rfl)) (fun _ _ _ h => h) (Or.inl ⟨by rfl, ?_⟩) ?_ ?_
      rotate_left
      · intro w'
        go_simp
        with_reducible rfl
      rotate_left
      · simp only [Act.put, List.setIfInBounds_toArray, List.set_cons_zero, List.set_cons_succ, i64_w, i32_w]
        rfl
      refine take_ (i := 3) (N := some 16) (v := ?_) (a' := ?_) #[true, true, true, true, true, false, false, true, true, true, false, true, false, false, false, false] rfl rfl (take_ofW HT_.out HW_.out (by kernel_rfl)) (fun _ _ _ h => h) (Or.inl ⟨by rfl, ?_⟩) hHeld ?_ ?_
      rotate_left
      · rintro w' ⟨s0, s1, s2, s3⟩
        go_simp
        with_reducible rfl
      rotate_left
      · simp only [Act.put, List.setIfInBounds_toArray, List.set_cons_zero, List.set_cons_succ, i64_w, i32_w]
        rfl
      refine pure_ (i := 5) (N := some 18) (v := ?_) (a' := ?_) #[true, true, true, true, true, true, false, true, true, true, false, true, false, false, false, false] rfl rfl (any_of HT_.out (by kernel_rfl)) (fun _ _ _ h => h) (Or.inl ⟨by rfl, ?_⟩) ?_ ?_
      rotate_left
      · intro w'
        go_simp
        with_reducible rfl
      rotate_left
      · simp only [Act.put, List.setIfInBounds_toArray, List.set_cons_zero, List.set_cons_succ, i64_w, i32_w]
        rfl
      refine take_ (i := 6) (N := some 19) (v := ?_) (a' := ?_) #[true, true, true, true, true, true, true, true, true, true, false, true, false, false, false, false] rfl rfl (take_ofW HT_.out HW_.out (by kernel_rfl)) (fun _ _ _ h => h) (Or.inl ⟨by rfl, ?_⟩) hHeld ?_ ?_
      rotate_left
      · rintro w' ⟨s0, s1, s2, s3⟩
        go_simp
        with_reducible rfl
      rotate_left
      · simp only [Act.put, List.setIfInBounds_toArray, List.set_cons_zero, List.set_cons_succ, i64_w, i32_w]
        rfl
      refine take_ (i := 10) (N := some 23) (v := ?_) (a' := ?_) #[true, true, true, true, true, true, true, true, true, true, true, true, false, false, false, false] rfl rfl (take_ofW HT_.out HW_.out (by kernel_rfl)) (fun _ _ _ h => h) (Or.inl ⟨by rfl, ?_⟩) hHeld ?_ ?_
      rotate_left
      · rintro w' ⟨s0, s1, s2, s3⟩
        go_simp
        with_reducible rfl
      rotate_left
      · simp only [Act.put, List.setIfInBounds_toArray, List.set_cons_zero, List.set_cons_succ, i64_w, i32_w]
        rfl
      refine pure_ (i := 12) (N := some 25) (v := ?_) (a' := ?_) #[true, true, true, true, true, true, true, true, true, true, true, true, true, false, false, false] rfl rfl (any_of HT_.out (by kernel_rfl)) (fun _ _ _ h => h) (Or.inl ⟨by rfl, ?_⟩) ?_ ?_
      rotate_left
      · intro w'
        go_simp
        with_reducible rfl
      rotate_left
      · simp only [Act.put, List.setIfInBounds_toArray, List.set_cons_zero, List.set_cons_succ, i64_w, i32_w]
        rfl
      refine take_ (i := 13) (N := some 26) (v := ?_) (a' := ?_) #[true, true, true, true, true, true, true, true, true, true, true, true, true, true, false, false] rfl rfl (take_ofW HT_.out HW_.out (by kernel_rfl)) (fun _ _ _ h => h) (Or.inl ⟨by rfl, ?_⟩) hHeld ?_ ?_
      rotate_left
      · rintro w' ⟨s0, s1, s2, s3⟩
        go_simp
        with_reducible rfl
      rotate_left
      · simp only [Act.put, List.setIfInBounds_toArray, List.set_cons_zero, List.set_cons_succ, i64_w, i32_w]
        rfl
      refine one_ (i := 14) (N := some 27) #[true, true, true, true, true, true, true, true, true, true, true, true, true, true, true, false] rfl rfl (one_of HT_.out (by kernel_rfl)) (by decide) (fun K hK => ?_)
      refine goes_ Try.func14 (by kernel_rfl) rfl #[.slice A1 (c i).length c1, .slice A2 (c i).length c2] (by rfl) rfl rfl (by (try simp only [List.map_toArray, List.map_cons, List.map_nil]); first | done | rfl) ?_
      with_reducible refine (HS _ HC1.out HC2.out).mono ?_
      rintro e w2 ⟨rfl, ⟨m, rfl⟩⟩
      refine ⟨_, rfl, ?_⟩
      refine hK.out _ _ hHeld (fun hHeld => ?_)
      clear hK K
      refine norm_ (a' := ?_) ?_ ?_
      rotate_left
      · show Act.put _ (some 27) _ = _
        simp only [Act.put, List.setIfInBounds_toArray, List.set_cons_zero, List.set_cons_succ, i64_w, i32_w]
        rfl
      refine pure_ (i := 15) (N := some 28) (v := ?_) (a' := ?_) #[true, true, true, true, true, true, true, true, true, true, true, true, true, true, true, true] rfl rfl (any_of HT_.out (by kernel_rfl)) (fun _ _ _ h => h) (Or.inl ⟨by rfl, ?_⟩) ?_ ?_
      rotate_left
      · intro w'
        go_simp
        with_reducible rfl
      rotate_left
      · simp only [Act.put, List.setIfInBounds_toArray, List.set_cons_zero, List.set_cons_succ, i64_w, i32_w]
        rfl
      refine done_ (done_of HT_.out (by kernel_rfl)) ?_
      try go_wp2
      exact ⟨⟨i + 1, congrArg _ hwrap.out, ⟨⟨HR1.out.1, HR1.out.2.1.drewN m, HR1.out.2.2.step m⟩⟩⟩, meas _ i hik.out hwrap.out⟩
    · have hi1 : decide ((i : Int) < (k : Int)) = false := decide_eq_false (by omega)
      have hd := HR.out.2.2
      go_wp2
      go_ret
      exact ⟨rfl, hd⟩
end Go.Proofs.Ytdonanibfifodaa.Book
