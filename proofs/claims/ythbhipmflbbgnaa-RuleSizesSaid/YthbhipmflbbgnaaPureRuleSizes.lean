/- Of kinds with a length of their own just that length may be. Conditions: those of the statement itself. -/
import Derived.Test.YthbhipmflbbgnaaPRuleSizesx0
import Derived.Test.YthbhipmflbbgnaaPRuleSizesx1
import Derived.Test.YthbhipmflbbgnaaPRuleSizesx2
import Derived.Test.YthbhipmflbbgnaaPRuleSizesx3
import Derived.Test.YthbhipmflbbgnaaAid
namespace Go.Proofs.Ythbhipmflbbgnaa.Pure
open Go.RowKit Go.Proofs.YthbhipmflbbgnaaW.PrintWords Go.Proofs.YthbhipmflbbgnaaW.PrintLast Go.Proofs.YthbhipmflbbgnaaW.PrintMore Go.Proofs.Ythbhipmflbbgnaa.Aid Go.Proofs.Ythbhipmflbbgnaa.PRuleSizes
set_option linter.unusedVariables false
set_option linter.unusedSimpArgs false

theorem tl_nil (b : ByteArray) : b.toList = ([] : List UInt8) ↔ b.size = 0 := by
  rw [ByteArray.toList_eq]
  constructor
  · intro h
    have := congrArg List.length h
    simpa using this
  · intro h
    have : b.data.toList.length = 0 := by rw [Array.length_toList]; exact h
    exact List.length_eq_zero_iff.1 this
theorem bt_r (s : ByteArray) (i : Int) : 0 ≤ bt s i ∧ bt s i ≤ 255 := bt_range s i
def bare (fl : Int) (b : ByteArray) : ByteArray × Bool :=
  if Go.bits .and .i64 fl 8 = 0 then (b, true) else if b.size = 0 then (⟨#[]⟩, false) else if bt b 0 > (b.size : Int) - 1 then (⟨#[]⟩, false) else (b.extract 1 ((b.size : Int) - bt b 0).toNat, true)
theorem bare_run (kd fl id : Int) (b : ByteArray) (hb : b.size ≤ 4611686018427387904) : frame_bare.f kd fl id b = some (bare fl b) := by
  have hr := bt_r b 0
  unfold frame_bare.f bare
  by_cases h1 : Go.bits .and .i64 fl 8 = 0
  · rw [if_pos h1, if_pos h1]
  · rw [if_neg h1, if_neg h1]
    by_cases h2 : b.size = 0
    · rw [if_pos ((tl_nil b).2 h2), if_pos h2]
    · rw [if_neg (fun h => h2 ((tl_nil b).1 h)), if_neg h2, if_pos (by omega), wid (x := bt b 0) (by omega) (by omega), wid (x := (b.size : Int) - 1) (by omega) (by omega), wid (x := (b.size : Int) - bt b 0) (by omega) (by omega)]
      by_cases h3 : bt b 0 > (b.size : Int) - 1
      · rw [if_pos h3, if_pos h3]
      · rw [if_neg h3, if_neg h3, if_pos (by omega), if_pos (by omega)]
def unweigh (w : Bool) (body b : ByteArray) : ByteArray × Int × Int :=
  if w = true then (if (body.size : Int) < 5 then (⟨#[]⟩, 0, 5) else (body.extract 5 body.size, (b.size : Int) - ((body.extract 5 body.size).size : Int), 0)) else (body, (b.size : Int) - (body.size : Int), 0)
def strip (kd fl : Int) (b : ByteArray) : ByteArray × Int × Int :=
  if kd = 0 ∨ kd = 1 then (if (bare fl b).2 = true then unweigh (decide (kd = 1) && (Go.bits .and .i64 fl 32 != 0)) (bare fl b).1 b else (⟨#[]⟩, 0, 11)) else (b, 0, 0)
theorem bare_size (fl : Int) (b : ByteArray) : (bare fl b).1.size ≤ b.size := by
  unfold bare
  split
  · exact Nat.le_refl _
  · split
    · exact Nat.zero_le _
    · split
      · exact Nat.zero_le _
      · simp [ByteArray.size_extract]; omega
theorem strip_ev (kd fl id : Int) (b : ByteArray) (hb : b.size ≤ 4611686018427387904) : Ev (fun k => frame_Strip.f k kd fl id b) (strip kd fl b) := by
  have hs := bare_size fl b
  have j1 : ∀ w c : Bool, c = (w && decide (((bare fl b).1.size : Int) < 5)) → Ev (fun k => frame_Strip.j1 k w (bare fl b).1 c kd fl id b) (unweigh w (bare fl b).1 b) := by
    intro w c hc
    refine Ev.step (fun k => frame_Strip.j1.eq_2 ..) ?_
    cases w with
    | true =>
      simp only [Bool.true_and] at hc
      by_cases h5 : ((bare fl b).1.size : Int) < 5
      · exact Ev_pos (by rw [hc]; exact decide_eq_true h5) (Ev_some (by simp [unweigh, h5]))
      · refine Ev_neg (by rw [hc]; simpa using h5) (Ev_pos rfl (Ev_pos (by omega) (Ev_some ?_)))
        have he : ((bare fl b).1.extract 5 (bare fl b).1.size).size ≤ (bare fl b).1.size := by simp [ByteArray.size_extract]
        rw [wid (by omega) (by omega)]
        simp [unweigh, h5]
    | false =>
      simp only [Bool.false_and] at hc
      refine Ev_neg (by rw [hc]; simp) (Ev_neg (by simp) (Ev_some ?_))
      rw [wid (by omega) (by omega)]
      simp [unweigh]
  have j0 : ∀ w : Bool, (kd = 0 ∨ kd = 1) → w = (decide (kd = 1) && (Go.bits .and .i64 fl 32 != 0)) → Ev (fun k => frame_Strip.j0 k w kd fl id b) (strip kd fl b) := by
    intro w hk hw
    refine Ev.step (fun k => frame_Strip.j0.eq_2 ..) (Ev_bind0 (bare_run kd fl id b hb) ?_)
    unfold strip
    rw [if_pos hk, ← hw]
    by_cases h2 : (bare fl b).2 = true
    · rw [if_pos h2]
      refine Ev_pos h2 ?_
      cases w with
      | true => exact Ev_pos rfl (j1 true _ (by simp))
      | false => exact Ev_neg (by simp) (j1 false _ (by simp))
    · rw [if_neg h2]
      exact Ev_neg h2 (Ev_some rfl)
  unfold frame_Strip.f
  by_cases h1 : kd = 1
  · exact Ev_pos h1 (j0 _ (.inr h1) (by simp [h1]))
  · refine Ev_neg h1 ?_
    by_cases h0 : kd = 0
    · exact Ev_pos h0 (j0 _ (.inl h0) (by simp [h1]))
    · refine Ev_neg h0 (Ev_some ?_)
      unfold strip
      rw [if_neg (by omega)]
theorem strip_err (kd fl : Int) (b : ByteArray) : (strip kd fl b).2.2 = 0 ∨ (strip kd fl b).2.2 = 5 ∨ (strip kd fl b).2.2 = 11 := by
  unfold strip
  split
  · split
    · unfold unweigh
      split
      · split <;> simp
      · simp
    · simp
  · simp
def rightB (kd fl id : Int) (b : ByteArray) : Bool := decide (0 ≤ kd ∧ kd ≤ 255 ∧ 0 ≤ fl ∧ fl ≤ 255 ∧ 0 ≤ id ∧ id ≤ 2147483647 ∧ b.size ≤ 16777215)
theorem right_run (kd fl id : Int) (b : ByteArray) : frame_Right.f kd fl id b = some (rightB kd fl id b) := by
  unfold frame_Right.f rightB
  by_cases h1 : kd ≥ 0
  · by_cases h2 : kd ≤ 255
    · by_cases h3 : fl ≥ 0
      · by_cases h4 : fl ≤ 255
        · by_cases h5 : id ≥ 0
          · by_cases h6 : id ≤ 2147483647
            · rw [if_pos h1, if_pos h2, if_pos h3, if_pos h4, if_pos h5, if_pos h6]
              congr 1
              exact decide_eq_decide.2 (by omega)
            · rw [if_pos h1, if_pos h2, if_pos h3, if_pos h4, if_pos h5, if_neg h6, decide_eq_false (by omega)]
          · rw [if_pos h1, if_pos h2, if_pos h3, if_pos h4, if_neg h5, decide_eq_false (by omega)]
        · rw [if_pos h1, if_pos h2, if_pos h3, if_neg h4, decide_eq_false (by omega)]
      · rw [if_pos h1, if_pos h2, if_neg h3, decide_eq_false (by omega)]
    · rw [if_pos h1, if_neg h2, decide_eq_false (by omega)]
  · rw [if_neg h1, decide_eq_false (by omega)]
def streamedB (kd : Int) : Bool := decide (kd = 0 ∨ kd = 1 ∨ kd = 2 ∨ kd = 3 ∨ kd = 9)
theorem streamed_ev (kd : Int) : Ev (fun k => rule_Streamed.f k kd) (streamedB kd) := by
  unfold rule_Streamed.f
  refine Ev_ite (fun h => Ev_some (by simp [streamedB, h])) fun h0 => ?_
  have j0 : ∀ c : Bool, c = decide (kd = 1 ∨ kd = 2) → Ev (fun k => rule_Streamed.j0 k kd c) (streamedB kd) := by
    intro c hc
    refine Ev.step (fun k => rule_Streamed.j0.eq_2 ..) ?_
    refine Ev_ite (fun h => Ev_some ?_) fun h1 => Ev_ite (fun h => Ev_some (by simp [streamedB, h])) fun h3 => Ev_ite (fun h => Ev_some (by simp [streamedB, h])) fun h9 => Ev_some ?_
    · have := of_decide_eq_true (hc.symm.trans h)
      unfold streamedB
      rw [decide_eq_true (by omega)]
    · have : ¬ (kd = 1 ∨ kd = 2) := fun hh => h1 (hc.trans (decide_eq_true hh))
      unfold streamedB
      rw [decide_eq_false (by omega)]
  by_cases h1 : kd = 1
  · exact Ev_pos h1 (j0 _ (by simp [h1]))
  · exact Ev_neg h1 (j0 _ (by
      by_cases h2 : kd = 2 <;> simp [h1, h2]))
def placedB (kd id : Int) : Bool := if kd = 5 then false else if kd = 4 ∨ kd = 6 ∨ kd = 7 then decide (id = 0) else !streamedB kd || decide (id ≠ 0)
theorem placed_ev (kd fl id : Int) (b : ByteArray) : Ev (fun k => rule_placed.f k kd fl id b) (placedB kd id) := by
  unfold rule_placed.f placedB
  by_cases h5 : kd = 5
  · rw [if_pos h5]; exact Ev_pos h5 (Ev_some rfl)
  · rw [if_neg h5]
    refine Ev_neg h5 ?_
    by_cases h4 : kd = 4
    · rw [if_pos (.inl h4)]
      exact Ev_pos h4 (Ev_some rfl)
    · refine Ev_neg h4 ?_
      by_cases h6 : kd = 6
      · rw [if_pos (.inr (.inl h6))]
        exact Ev_pos h6 (Ev_some rfl)
      · refine Ev_neg h6 ?_
        by_cases h7 : kd = 7
        · rw [if_pos (.inr (.inr h7))]
          exact Ev_pos h7 (Ev_some rfl)
        · rw [if_neg (by omega)]
          refine Ev_neg h7 (Ev.bind (streamed_ev kd) ?_)
          refine Ev_ite (fun h => Ev_some ?_) fun h => Ev_some ?_
          · rw [h]
            by_cases hi : id = 0 <;> simp [hi]
          · simp at h
            simp [h]
def sizedB (kd fl : Int) (n : Int) : Bool :=
  if kd = 2 then decide (n = 5) else if kd = 3 then decide (n = 4) else if kd = 8 then decide (n = 4) else if kd = 6 then decide (n = 8) else if kd = 7 then decide (n ≥ 8) else
  if kd = 4 then decide (n % 6 = 0 ∧ (Go.bits .and .i64 fl 1 = 0 ∨ n = 0)) else true
theorem sized_run (kd fl id : Int) (b : ByteArray) : rule_sized.f kd fl id b = some (sizedB kd fl (b.size : Int)) := by
  unfold rule_sized.f sizedB
  by_cases h2 : kd = 2
  · rw [if_pos h2, if_pos h2]; rfl
  · rw [if_neg h2, if_neg h2]
    by_cases h3 : kd = 3
    · rw [if_pos h3, if_pos h3]; rfl
    · rw [if_neg h3, if_neg h3]
      by_cases h8 : kd = 8
      · rw [if_pos h8, if_pos h8]; rfl
      · rw [if_neg h8, if_neg h8]
        by_cases h6 : kd = 6
        · rw [if_pos h6, if_pos h6]; rfl
        · rw [if_neg h6, if_neg h6]
          by_cases h7 : kd = 7
          · rw [if_pos h7, if_pos h7]
          · rw [if_neg h7, if_neg h7]
            by_cases h4 : kd = 4
            · rw [if_pos h4, if_pos h4]
              by_cases hm : (b.size : Int) % 6 = 0
              · rw [if_pos hm]
                by_cases ha : Go.bits .and .i64 fl 1 = 0
                · rw [if_pos ha]; simp [hm, ha]
                · rw [if_neg ha]
                  by_cases h0 : b.size = 0 <;> simp [hm, ha, h0]
              · rw [if_neg hm]; simp [hm]
            · rw [if_neg h4, if_neg h4]
/-- What rule says of a frame. -/
def chk (kd fl id : Int) (b : ByteArray) : Int × Int :=
  if rightB kd fl id b = true then (if placedB kd id = true then (if sizedB kd fl (b.size : Int) = true then (if (strip kd fl b).2.2 = 11 then (1, 11) else if (strip kd fl b).2.2 = 5 then (6, 5) else (0, 0)) else (6, 5)) else (1, 11)) else (1, 1)
theorem check_ev (kd fl id : Int) (b : ByteArray) (hb : b.size ≤ 4611686018427387904) : Ev (fun k => rule_Check.f k kd fl id b) (chk kd fl id b) := by
  unfold rule_Check.f chk
  refine Ev_bind0 (right_run kd fl id b) ?_
  by_cases h1 : rightB kd fl id b = true
  · rw [if_pos h1]
    refine Ev_pos h1 (Ev.bind (placed_ev kd fl id b) ?_)
    by_cases h2 : placedB kd id = true
    · rw [if_pos h2]
      refine Ev_pos h2 (Ev_bind0 (sized_run kd fl id b) ?_)
      by_cases h3 : sizedB kd fl (b.size : Int) = true
      · rw [if_pos h3]
        refine Ev_pos h3 (Ev.bind (strip_ev kd fl id b hb) ?_)
        refine Ev_ite (fun h4 => Ev_some ?_) (fun h4 => Ev_ite (fun h5 => Ev_some ?_) fun h5 => Ev_some ?_)
        · rw [if_pos h4, h4]
        · rw [if_neg h4, if_pos h5, h5]
        · rw [if_neg h4, if_neg h5]
      · rw [if_neg h3]; exact Ev_neg h3 (Ev_some rfl)
    · rw [if_neg h2]; exact Ev_neg h2 (Ev_some rfl)
  · rw [if_neg h1]; exact Ev_neg h1 (Ev_some rfl)

theorem alive_ev : Ev (fun k => bywashlaw9_alive.f k) true := by
  unfold bywashlaw9_alive.f
  refine Ev.bind (check_ev 6 0 0 _ (by decide)) (Ev.bind (check_ev 0 0 0 _ (by decide)) ?_)
  have e1 : chk 6 0 0 (⟨#[49, 50, 51, 52, 53, 54, 55]⟩ : ByteArray) = (6, 5) := by simp [chk, rightB, placedB, sizedB, ByteArray.size]
  have e2 : chk 0 0 0 (⟨#[]⟩ : ByteArray) = (1, 11) := by simp [chk, rightB, placedB, sizedB, streamedB, ByteArray.size]
  rw [e1, e2]
  refine Ev_pos rfl (Ev_pos rfl (Ev_pos rfl (Ev_pos rfl ?_)))
  refine Ev_bind0 (x := 15) (by simp [rule_Error.f]) (Ev_pos rfl (Ev_bind0 (x := true) (by simp [rule_Known.f]) (Ev_pos rfl ?_)))
  exact Ev.bind (streamed_ev 6) (Ev_some (by simp [streamedB]))

theorem and08 : Go.bits .and .i64 0 8 = 0 := by decide
theorem and01 : Go.bits .and .i64 0 1 = 0 := by decide
theorem and11 : Go.bits .and .i64 1 1 = 1 := by decide
theorem zeros_size (n : Int) : (strOfNums (List.replicate n.toNat 0)).size = n.toNat := by simp [strOfNums, ByteArray.size]
theorem size_chk (kd fl id : Int) (b : ByteArray) (hr : rightB kd fl id b = true) (hp : placedB kd id = true) (h2 : 2 ≤ kd) : chk kd fl id b = if sizedB kd fl (b.size : Int) = true then (0, 0) else (6, 5) := by
  have hst : (strip kd fl b).2.2 = 0 := by
    unfold strip
    rw [if_neg (by omega)]
  unfold chk
  rw [if_pos hr, if_pos hp, hst]; rfl
theorem j2_ev (q : Bool) (kd fl id : Int) (b : ByteArray) (hb : b.size ≤ 100) (hp : chk kd fl id b = if q = true then (0, 0) else (6, 5)) : Ev (fun k => bywashlaw9_RuleSizes.j2 k q kd fl id b) true := by
  refine Ev.step (fun k => bywashlaw9_RuleSizes.j2.eq_2 ..) (Ev.bind (check_ev kd fl id b (by omega)) ?_)
  rw [hp]
  cases q with
  | true => exact Ev_pos rfl (Ev_pos rfl (Ev_pos rfl (Ev_some rfl)))
  | false => exact Ev_neg (by simp) (Ev_pos rfl (Ev_some rfl))
theorem j1_ev (ack q : Bool) (b : ByteArray) (hb : b.size ≤ 100) (hp : chk 4 (if ack = true then 1 else 0) 0 b = if q = true then (0, 0) else (6, 5)) : Ev (fun k => bywashlaw9_RuleSizes.j1 k ack q 4 0 0 b) true := by
  refine Ev.step (fun k => bywashlaw9_RuleSizes.j1.eq_2 ..) ?_
  cases ack with
  | true => exact Ev_pos rfl (j2_ev q 4 1 0 b hb hp)
  | false => exact Ev_neg (by simp) (j2_ev q 4 0 0 b hb hp)
theorem RuleSizes : bywashlaw9_RuleSizes.Pure := by
  intro kd n ack _ _
  have j0_true : Ev (fun k => bywashlaw9_RuleSizes.j0 k kd n ack true) true :=
    Ev.step (fun k => bywashlaw9_RuleSizes.j0.eq_2 ..) (Ev_pos rfl (Ev.bind alive_ev (Ev_some rfl)))
  refine Ev.rounds ?_
  unfold bywashlaw9_RuleSizes.f
  refine Ev_ite (fun _ => j0_true) fun h1 => ?_
  refine Ev_ite (fun _ => j0_true) fun h2 => ?_
  refine Ev.bind alive_ev ?_
  refine Ev.step (fun k => bywashlaw9_RuleSizes.j0.eq_2 ..) (Ev_neg (by simp) (Ev_pos (by omega) (Ev_pos (by omega) (Ev_bind0 rfl ?_))))
  have hz : ((strOfNums (List.replicate n.toNat 0)).size : Int) = n := by rw [zeros_size]; omega
  have hzn : (strOfNums (List.replicate n.toNat 0)).size ≤ 100 := by rw [zeros_size]; omega
  have hch := fun kd fl id => check_ev kd fl id (strOfNums (List.replicate n.toNat 0)) (by omega)
  have hrt : ∀ kd fl id, 0 ≤ kd → kd ≤ 9 → 0 ≤ fl → fl ≤ 1 → 0 ≤ id → id ≤ 1 → rightB kd fl id (strOfNums (List.replicate n.toNat 0)) = true := fun kd fl id _ _ _ _ _ _ => decide_eq_true (by omega)
  have hsc := fun kd fl id => size_chk kd fl id (strOfNums (List.replicate n.toNat 0))
  rw [hz] at hsc
  generalize strOfNums (List.replicate n.toNat 0) = b at *
  have hR : ∀ kd fl id, 0 ≤ kd → kd ≤ 9 → 0 ≤ fl → fl ≤ 1 → 0 ≤ id → id ≤ 1 → placedB kd id = true → 2 ≤ kd → chk kd fl id b = if sizedB kd fl n = true then (0, 0) else (6, 5) :=
    fun kd fl id a1 a2 a3 a4 a5 a6 a7 a8 => hsc kd fl id (hrt kd fl id a1 a2 a3 a4 a5 a6) a7 a8
  refine Ev_ite (fun hk => ?_) fun k2 => ?_
  · subst hk
    exact j2_ev _ 2 0 1 b hzn (hR 2 0 1 (by omega) (by omega) (by omega) (by omega) (by omega) (by omega) (by simp [placedB]) (by omega))
  refine Ev_ite (fun hk => ?_) fun k3 => ?_
  · subst hk
    exact j2_ev _ 3 0 1 b hzn (hR 3 0 1 (by omega) (by omega) (by omega) (by omega) (by omega) (by omega) (by simp [placedB]) (by omega))
  refine Ev_ite (fun hk => ?_) fun k8 => ?_
  · subst hk
    exact j2_ev _ 8 0 0 b hzn (hR 8 0 0 (by omega) (by omega) (by omega) (by omega) (by omega) (by omega) (by simp [placedB, streamedB]) (by omega))
  refine Ev_ite (fun hk => ?_) fun k6 => ?_
  · subst hk
    exact j2_ev _ 6 0 0 b hzn (hR 6 0 0 (by omega) (by omega) (by omega) (by omega) (by omega) (by omega) (by simp [placedB]) (by omega))
  refine Ev_ite (fun hk => ?_) fun k7 => ?_
  · subst hk
    exact j2_ev _ 7 0 0 b hzn (hR 7 0 0 (by omega) (by omega) (by omega) (by omega) (by omega) (by omega) (by simp [placedB]) (by omega))
  refine Ev_ite (fun hk => ?_) fun k4 => Ev_some rfl
  subst hk
  have hm : Int.tmod n 6 = n % 6 := Int.tmod_eq_emod_of_nonneg (by omega)
  have h1 := hR 4 1 0 (by omega) (by omega) (by omega) (by omega) (by omega) (by omega) (by simp [placedB]) (by omega)
  have h0 := hR 4 0 0 (by omega) (by omega) (by omega) (by omega) (by omega) (by omega) (by simp [placedB]) (by omega)
  have s1 : sizedB 4 1 n = decide (n % 6 = 0 ∧ n = 0) := by simp [sizedB, and11]
  have s0 : sizedB 4 0 n = decide (n % 6 = 0) := by simp [sizedB, and01]
  rw [s1] at h1
  rw [s0] at h0
  rw [hm]
  refine Ev_ite (fun hd => ?_) fun hd => ?_
  · cases ack with
    | true =>
      refine Ev_pos rfl (j1_ev true _ b hzn ?_)
      simp only [if_true]
      rw [h1]
      by_cases hn : n = 0 <;> simp [hd, hn]
    | false =>
      refine Ev_neg (by simp) (j1_ev false _ b hzn ?_)
      show chk 4 0 0 b = _
      rw [h0]; simp [hd]
  · refine j1_ev ack _ b hzn ?_
    cases ack with
    | true =>
      show chk 4 1 0 b = _
      rw [h1]; simp [hd]
    | false =>
      show chk 4 0 0 b = _
      rw [h0]; simp [hd]

end Go.Proofs.Ythbhipmflbbgnaa.Pure
