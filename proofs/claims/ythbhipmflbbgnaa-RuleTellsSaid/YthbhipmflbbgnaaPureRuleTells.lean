/- Every frame, by itself; every kind; every code. Conditions: those of the statement itself. -/
import Derived.Test.YthbhipmflbbgnaaPRuleTellsx0
import Derived.Test.YthbhipmflbbgnaaPRuleTellsx1
import Derived.Test.YthbhipmflbbgnaaPRuleTellsx2
import Derived.Test.YthbhipmflbbgnaaPRuleTellsx3
import Derived.Test.YthbhipmflbbgnaaPRuleTellsx4
import Derived.Test.YthbhipmflbbgnaaPRuleTellsx5
import Derived.Test.YthbhipmflbbgnaaStaRuleTells
import Derived.Test.YthbhipmflbbgnaaAid
namespace Go.Proofs.Ythbhipmflbbgnaa.Pure
open Go.RowKit Go.Proofs.YthbhipmflbbgnaaW.PrintWords Go.Proofs.YthbhipmflbbgnaaW.PrintLast Go.Proofs.YthbhipmflbbgnaaW.PrintMore Go.Proofs.Ythbhipmflbbgnaa.Aid Go.Proofs.Ythbhipmflbbgnaa.PRuleTells Go.Proofs.Ythbhipmflbbgnaa.StaRuleTells
set_option linter.unusedVariables false
set_option linter.unusedSimpArgs false

theorem tl_nil (b : ByteArray) : b.toList = ([] : List UInt8) ↔ b.size = 0 := by
  rw [ByteArray.toList_eq]
  constructor
  · intro h
    have := congrArg List.length h
    simpa using this
  · intro h
    have : b.data.toList.length = 0 := by rw [Array.length_toList]; exact h
    exact List.length_eq_zero_iff.1 this
theorem bt_r (s : ByteArray) (i : Int) : 0 ≤ bt s i ∧ bt s i ≤ 255 := bt_range s i
def bare (fl : Int) (b : ByteArray) : ByteArray × Bool :=
  if Go.bits .and .i64 fl 8 = 0 then (b, true) else if b.size = 0 then (⟨#[]⟩, false) else if bt b 0 > (b.size : Int) - 1 then (⟨#[]⟩, false) else (b.extract 1 ((b.size : Int) - bt b 0).toNat, true)
theorem bare_run (kd fl id : Int) (b : ByteArray) (hb : b.size ≤ 4611686018427387904) : frame_bare.f kd fl id b = some (bare fl b) := by
  have hr := bt_r b 0
  unfold frame_bare.f bare
  by_cases h1 : Go.bits .and .i64 fl 8 = 0
  · rw [if_pos h1, if_pos h1]
  · rw [if_neg h1, if_neg h1]
    by_cases h2 : b.size = 0
    · rw [if_pos ((tl_nil b).2 h2), if_pos h2]
    · rw [if_neg (fun h => h2 ((tl_nil b).1 h)), if_neg h2, if_pos (by omega), wid (x := bt b 0) (by omega) (by omega), wid (x := (b.size : Int) - 1) (by omega) (by omega), wid (x := (b.size : Int) - bt b 0) (by omega) (by omega)]
      by_cases h3 : bt b 0 > (b.size : Int) - 1
      · rw [if_pos h3, if_pos h3]
      · rw [if_neg h3, if_neg h3, if_pos (by omega), if_pos (by omega)]
def unweigh (w : Bool) (body b : ByteArray) : ByteArray × Int × Int :=
  if w = true then (if (body.size : Int) < 5 then (⟨#[]⟩, 0, 5) else (body.extract 5 body.size, (b.size : Int) - ((body.extract 5 body.size).size : Int), 0)) else (body, (b.size : Int) - (body.size : Int), 0)
def strip (kd fl : Int) (b : ByteArray) : ByteArray × Int × Int :=
  if kd = 0 ∨ kd = 1 then (if (bare fl b).2 = true then unweigh (decide (kd = 1) && (Go.bits .and .i64 fl 32 != 0)) (bare fl b).1 b else (⟨#[]⟩, 0, 11)) else (b, 0, 0)
theorem bare_size (fl : Int) (b : ByteArray) : (bare fl b).1.size ≤ b.size := by
  unfold bare
  split
  · exact Nat.le_refl _
  · split
    · exact Nat.zero_le _
    · split
      · exact Nat.zero_le _
      · simp [ByteArray.size_extract]; omega
theorem strip_ev (kd fl id : Int) (b : ByteArray) (hb : b.size ≤ 4611686018427387904) : Ev (fun k => frame_Strip.f k kd fl id b) (strip kd fl b) := by
  have hs := bare_size fl b
  have j1 : ∀ w c : Bool, c = (w && decide (((bare fl b).1.size : Int) < 5)) → Ev (fun k => frame_Strip.j1 k w (bare fl b).1 c kd fl id b) (unweigh w (bare fl b).1 b) := by
    intro w c hc
    refine Ev.step (fun k => frame_Strip.j1.eq_2 ..) ?_
    cases w with
    | true =>
      simp only [Bool.true_and] at hc
      by_cases h5 : ((bare fl b).1.size : Int) < 5
      · exact Ev_pos (by rw [hc]; exact decide_eq_true h5) (Ev_some (by simp [unweigh, h5]))
      · refine Ev_neg (by rw [hc]; simpa using h5) (Ev_pos rfl (Ev_pos (by omega) (Ev_some ?_)))
        have he : ((bare fl b).1.extract 5 (bare fl b).1.size).size ≤ (bare fl b).1.size := by simp [ByteArray.size_extract]
        rw [wid (by omega) (by omega)]
        simp [unweigh, h5]
    | false =>
      simp only [Bool.false_and] at hc
      refine Ev_neg (by rw [hc]; simp) (Ev_neg (by simp) (Ev_some ?_))
      rw [wid (by omega) (by omega)]
      simp [unweigh]
  have j0 : ∀ w : Bool, (kd = 0 ∨ kd = 1) → w = (decide (kd = 1) && (Go.bits .and .i64 fl 32 != 0)) → Ev (fun k => frame_Strip.j0 k w kd fl id b) (strip kd fl b) := by
    intro w hk hw
    refine Ev.step (fun k => frame_Strip.j0.eq_2 ..) (Ev_bind0 (bare_run kd fl id b hb) ?_)
    unfold strip
    rw [if_pos hk, ← hw]
    by_cases h2 : (bare fl b).2 = true
    · rw [if_pos h2]
      refine Ev_pos h2 ?_
      cases w with
      | true => exact Ev_pos rfl (j1 true _ (by simp))
      | false => exact Ev_neg (by simp) (j1 false _ (by simp))
    · rw [if_neg h2]
      exact Ev_neg h2 (Ev_some rfl)
  unfold frame_Strip.f
  by_cases h1 : kd = 1
  · exact Ev_pos h1 (j0 _ (.inr h1) (by simp [h1]))
  · refine Ev_neg h1 ?_
    by_cases h0 : kd = 0
    · exact Ev_pos h0 (j0 _ (.inl h0) (by simp [h1]))
    · refine Ev_neg h0 (Ev_some ?_)
      unfold strip
      rw [if_neg (by omega)]
theorem strip_err (kd fl : Int) (b : ByteArray) : (strip kd fl b).2.2 = 0 ∨ (strip kd fl b).2.2 = 5 ∨ (strip kd fl b).2.2 = 11 := by
  unfold strip
  split
  · split
    · unfold unweigh
      split
      · split <;> simp
      · simp
    · simp
  · simp
def rightB (kd fl id : Int) (b : ByteArray) : Bool := decide (0 ≤ kd ∧ kd ≤ 255 ∧ 0 ≤ fl ∧ fl ≤ 255 ∧ 0 ≤ id ∧ id ≤ 2147483647 ∧ b.size ≤ 16777215)
theorem right_run (kd fl id : Int) (b : ByteArray) : frame_Right.f kd fl id b = some (rightB kd fl id b) := by
  unfold frame_Right.f rightB
  by_cases h1 : kd ≥ 0
  · by_cases h2 : kd ≤ 255
    · by_cases h3 : fl ≥ 0
      · by_cases h4 : fl ≤ 255
        · by_cases h5 : id ≥ 0
          · by_cases h6 : id ≤ 2147483647
            · rw [if_pos h1, if_pos h2, if_pos h3, if_pos h4, if_pos h5, if_pos h6]
              congr 1
              exact decide_eq_decide.2 (by omega)
            · rw [if_pos h1, if_pos h2, if_pos h3, if_pos h4, if_pos h5, if_neg h6, decide_eq_false (by omega)]
          · rw [if_pos h1, if_pos h2, if_pos h3, if_pos h4, if_neg h5, decide_eq_false (by omega)]
        · rw [if_pos h1, if_pos h2, if_pos h3, if_neg h4, decide_eq_false (by omega)]
      · rw [if_pos h1, if_pos h2, if_neg h3, decide_eq_false (by omega)]
    · rw [if_pos h1, if_neg h2, decide_eq_false (by omega)]
  · rw [if_neg h1, decide_eq_false (by omega)]
def streamedB (kd : Int) : Bool := decide (kd = 0 ∨ kd = 1 ∨ kd = 2 ∨ kd = 3 ∨ kd = 9)
theorem streamed_ev (kd : Int) : Ev (fun k => rule_Streamed.f k kd) (streamedB kd) := by
  unfold rule_Streamed.f
  refine Ev_ite (fun h => Ev_some (by simp [streamedB, h])) fun h0 => ?_
  have j0 : ∀ c : Bool, c = decide (kd = 1 ∨ kd = 2) → Ev (fun k => rule_Streamed.j0 k kd c) (streamedB kd) := by
    intro c hc
    refine Ev.step (fun k => rule_Streamed.j0.eq_2 ..) ?_
    refine Ev_ite (fun h => Ev_some ?_) fun h1 => Ev_ite (fun h => Ev_some (by simp [streamedB, h])) fun h3 => Ev_ite (fun h => Ev_some (by simp [streamedB, h])) fun h9 => Ev_some ?_
    · have := of_decide_eq_true (hc.symm.trans h)
      unfold streamedB
      rw [decide_eq_true (by omega)]
    · have : ¬ (kd = 1 ∨ kd = 2) := fun hh => h1 (hc.trans (decide_eq_true hh))
      unfold streamedB
      rw [decide_eq_false (by omega)]
  by_cases h1 : kd = 1
  · exact Ev_pos h1 (j0 _ (by simp [h1]))
  · exact Ev_neg h1 (j0 _ (by
      by_cases h2 : kd = 2 <;> simp [h1, h2]))
def placedB (kd id : Int) : Bool := if kd = 5 then false else if kd = 4 ∨ kd = 6 ∨ kd = 7 then decide (id = 0) else !streamedB kd || decide (id ≠ 0)
theorem placed_ev (kd fl id : Int) (b : ByteArray) : Ev (fun k => rule_placed.f k kd fl id b) (placedB kd id) := by
  unfold rule_placed.f placedB
  by_cases h5 : kd = 5
  · rw [if_pos h5]; exact Ev_pos h5 (Ev_some rfl)
  · rw [if_neg h5]
    refine Ev_neg h5 ?_
    by_cases h4 : kd = 4
    · rw [if_pos (.inl h4)]
      exact Ev_pos h4 (Ev_some rfl)
    · refine Ev_neg h4 ?_
      by_cases h6 : kd = 6
      · rw [if_pos (.inr (.inl h6))]
        exact Ev_pos h6 (Ev_some rfl)
      · refine Ev_neg h6 ?_
        by_cases h7 : kd = 7
        · rw [if_pos (.inr (.inr h7))]
          exact Ev_pos h7 (Ev_some rfl)
        · rw [if_neg (by omega)]
          refine Ev_neg h7 (Ev.bind (streamed_ev kd) ?_)
          refine Ev_ite (fun h => Ev_some ?_) fun h => Ev_some ?_
          · rw [h]
            by_cases hi : id = 0 <;> simp [hi]
          · simp at h
            simp [h]
def sizedB (kd fl : Int) (n : Int) : Bool :=
  if kd = 2 then decide (n = 5) else if kd = 3 then decide (n = 4) else if kd = 8 then decide (n = 4) else if kd = 6 then decide (n = 8) else if kd = 7 then decide (n ≥ 8) else
  if kd = 4 then decide (n % 6 = 0 ∧ (Go.bits .and .i64 fl 1 = 0 ∨ n = 0)) else true
theorem sized_run (kd fl id : Int) (b : ByteArray) : rule_sized.f kd fl id b = some (sizedB kd fl (b.size : Int)) := by
  unfold rule_sized.f sizedB
  by_cases h2 : kd = 2
  · rw [if_pos h2, if_pos h2]; rfl
  · rw [if_neg h2, if_neg h2]
    by_cases h3 : kd = 3
    · rw [if_pos h3, if_pos h3]; rfl
    · rw [if_neg h3, if_neg h3]
      by_cases h8 : kd = 8
      · rw [if_pos h8, if_pos h8]; rfl
      · rw [if_neg h8, if_neg h8]
        by_cases h6 : kd = 6
        · rw [if_pos h6, if_pos h6]; rfl
        · rw [if_neg h6, if_neg h6]
          by_cases h7 : kd = 7
          · rw [if_pos h7, if_pos h7]
          · rw [if_neg h7, if_neg h7]
            by_cases h4 : kd = 4
            · rw [if_pos h4, if_pos h4]
              by_cases hm : (b.size : Int) % 6 = 0
              · rw [if_pos hm]
                by_cases ha : Go.bits .and .i64 fl 1 = 0
                · rw [if_pos ha]; simp [hm, ha]
                · rw [if_neg ha]
                  by_cases h0 : b.size = 0 <;> simp [hm, ha, h0]
              · rw [if_neg hm]; simp [hm]
            · rw [if_neg h4, if_neg h4]
/-- What rule says of a frame. -/
def chk (kd fl id : Int) (b : ByteArray) : Int × Int :=
  if rightB kd fl id b = true then (if placedB kd id = true then (if sizedB kd fl (b.size : Int) = true then (if (strip kd fl b).2.2 = 11 then (1, 11) else if (strip kd fl b).2.2 = 5 then (6, 5) else (0, 0)) else (6, 5)) else (1, 11)) else (1, 1)
theorem check_ev (kd fl id : Int) (b : ByteArray) (hb : b.size ≤ 4611686018427387904) : Ev (fun k => rule_Check.f k kd fl id b) (chk kd fl id b) := by
  unfold rule_Check.f chk
  refine Ev_bind0 (right_run kd fl id b) ?_
  by_cases h1 : rightB kd fl id b = true
  · rw [if_pos h1]
    refine Ev_pos h1 (Ev.bind (placed_ev kd fl id b) ?_)
    by_cases h2 : placedB kd id = true
    · rw [if_pos h2]
      refine Ev_pos h2 (Ev_bind0 (sized_run kd fl id b) ?_)
      by_cases h3 : sizedB kd fl (b.size : Int) = true
      · rw [if_pos h3]
        refine Ev_pos h3 (Ev.bind (strip_ev kd fl id b hb) ?_)
        refine Ev_ite (fun h4 => Ev_some ?_) (fun h4 => Ev_ite (fun h5 => Ev_some ?_) fun h5 => Ev_some ?_)
        · rw [if_pos h4, h4]
        · rw [if_neg h4, if_pos h5, h5]
        · rw [if_neg h4, if_neg h5]
      · rw [if_neg h3]; exact Ev_neg h3 (Ev_some rfl)
    · rw [if_neg h2]; exact Ev_neg h2 (Ev_some rfl)
  · rw [if_neg h1]; exact Ev_neg h1 (Ev_some rfl)

theorem alive_ev : Ev (fun k => bywashlaw9_alive.f k) true := by
  unfold bywashlaw9_alive.f
  refine Ev.bind (check_ev 6 0 0 _ (by decide)) (Ev.bind (check_ev 0 0 0 _ (by decide)) ?_)
  have e1 : chk 6 0 0 (⟨#[49, 50, 51, 52, 53, 54, 55]⟩ : ByteArray) = (6, 5) := by simp [chk, rightB, placedB, sizedB, ByteArray.size]
  have e2 : chk 0 0 0 (⟨#[]⟩ : ByteArray) = (1, 11) := by simp [chk, rightB, placedB, sizedB, streamedB, ByteArray.size]
  rw [e1, e2]
  refine Ev_pos rfl (Ev_pos rfl (Ev_pos rfl (Ev_pos rfl ?_)))
  refine Ev_bind0 (x := 15) (by simp [rule_Error.f]) (Ev_pos rfl (Ev_bind0 (x := true) (by simp [rule_Known.f]) (Ev_pos rfl ?_)))
  exact Ev.bind (streamed_ev 6) (Ev_some (by simp [streamedB]))

theorem right2_run (kd fl id : Int) (b : ByteArray) : bywashref1_FrameRight.f kd fl id b = some (rightB kd fl id b) := right_run kd fl id b
theorem strip2_ev (kd fl id : Int) (b : ByteArray) (hb : b.size ≤ 4611686018427387904) : Ev (fun k => bywashref1_Strip.f k kd fl id b) (strip kd fl b) := by
  have hr := bt_r b 0
  have j2 : ∀ (w : Bool) (body : ByteArray), body.size ≤ b.size → Ev (fun k => bywashref1_Strip.j2 k body w kd fl id b) (unweigh w body b) := by
    intro w body hbody
    refine Ev.step (fun k => bywashref1_Strip.j2.eq_2 ..) ?_
    unfold unweigh
    refine Ev_ite (fun h => ?_) fun h => ?_
    · rw [if_pos h]
      refine Ev_ite (fun h5 => ?_) fun h5 => ?_
      · rw [if_pos h5]; exact Ev_some rfl
      · rw [if_neg h5]
        have he : (body.extract 5 body.size).size ≤ body.size := by simp [ByteArray.size_extract]
        refine Ev_pos (by omega) (Ev_some ?_)
        rw [wid (by omega) (by omega)]
    · rw [if_neg h]
      refine Ev_some ?_
      rw [wid (by omega) (by omega)]
  have j1 : ∀ (body : ByteArray), body.size ≤ b.size → Ev (fun k => bywashref1_Strip.j1 k body kd fl id b) (unweigh (decide (kd = 1) && (Go.bits .and .i64 fl 32 != 0)) body b) := by
    intro body hbody
    refine Ev.step (fun k => bywashref1_Strip.j1.eq_2 ..) ?_
    refine Ev_ite (fun h => ?_) fun h => ?_
    · rw [decide_eq_true h, Bool.true_and]; exact j2 _ _ hbody
    · rw [decide_eq_false h, Bool.false_and]; exact j2 _ _ hbody
  have hs := bare_size fl b
  have j0 : ∀ c : Bool, c = (decide (kd ≠ 0) && decide (kd ≠ 1)) → Ev (fun k => bywashref1_Strip.j0 k b c kd fl id b) (strip kd fl b) := by
    intro c hc
    refine Ev.step (fun k => bywashref1_Strip.j0.eq_2 ..) ?_
    refine Ev_ite (fun h => ?_) fun h => ?_
    · rw [h] at hc
      have hk : ¬ (kd = 0 ∨ kd = 1) := by
        have := hc.symm
        simp at this
        omega
      unfold strip
      rw [if_neg hk]; exact Ev_some rfl
    · have hk : kd = 0 ∨ kd = 1 := by
        have : c = false := by simpa using h
        rw [this] at hc
        by_cases h0 : kd = 0
        · exact .inl h0
        · by_cases h1 : kd = 1
          · exact .inr h1
          · simp [h0, h1] at hc
      unfold strip
      rw [if_pos hk]
      refine Ev_ite (fun h8 => ?_) fun h8 => ?_
      · have eb : bare fl b = (b, true) := by unfold bare; rw [if_pos h8]
        rw [eb]; exact j1 b (Nat.le_refl _)
      · refine Ev_ite (fun hn => ?_) fun hn => ?_
        · have eb : bare fl b = (⟨#[]⟩, false) := by unfold bare; rw [if_neg h8, if_pos ((tl_nil b).1 hn)]
          rw [eb]; exact Ev_some rfl
        · have hn' : ¬ b.size = 0 := fun h => hn ((tl_nil b).2 h)
          rw [wid (x := bt b 0) (by omega) (by omega), wid (x := (b.size : Int) - 1) (by omega) (by omega), wid (x := (b.size : Int) - bt b 0) (by omega) (by omega)]
          refine Ev_pos (by omega) (Ev_ite (fun h3 => ?_) fun h3 => Ev_pos (by omega) (Ev_pos (by omega) ?_))
          · have eb : bare fl b = (⟨#[]⟩, false) := by unfold bare; rw [if_neg h8, if_neg hn', if_pos h3]
            rw [eb]; exact Ev_some rfl
          · have eb : bare fl b = (b.extract 1 ((b.size : Int) - bt b 0).toNat, true) := by unfold bare; rw [if_neg h8, if_neg hn', if_neg h3]
            rw [eb] at hs ⊢
            exact j1 _ hs
  unfold bywashref1_Strip.f
  refine Ev_ite (fun h => ?_) fun h => ?_
  · exact j0 _ (by simp [h])
  · refine j0 _ ?_
    by_cases h1 : kd = 1 <;> simp [h, h1]
theorem check2_ev (kd fl id : Int) (b : ByteArray) (hb : b.size ≤ 4611686018427387904) : Ev (fun k => bywashref1_Check.f k kd fl id b) (chk kd fl id b) := by
  unfold bywashref1_Check.f chk
  refine Ev_bind0 (right2_run kd fl id b) (Ev_ite (fun hr => ?_) fun hr => ?_)
  · rw [if_pos hr]
    have j1 : ∀ x5 x6 : Bool, x5 = !placedB kd id → x6 = !sizedB kd fl (b.size : Int) → Ev (fun k => bywashref1_Check.j1 k x5 x6 kd fl id b)
        (if placedB kd id = true then (if sizedB kd fl (b.size : Int) = true then (if (strip kd fl b).2.2 = 11 then (1, 11) else if (strip kd fl b).2.2 = 5 then (6, 5) else (0, 0)) else (6, 5)) else (1, 11)) := by
      intro x5 x6 h5 h6
      refine Ev.step (fun k => bywashref1_Check.j1.eq_2 ..) ?_
      refine Ev_ite (fun h => ?_) fun h => ?_
      · have : ¬ placedB kd id = true := by rw [h5] at h; simpa using h
        rw [if_neg this]; exact Ev_some rfl
      · have : placedB kd id = true := by rw [h5] at h; simpa using h
        rw [if_pos this]
        refine Ev_ite (fun h => ?_) fun h => ?_
        · have : ¬ sizedB kd fl (b.size : Int) = true := by rw [h6] at h; simpa using h
          rw [if_neg this]; exact Ev_some rfl
        · have : sizedB kd fl (b.size : Int) = true := by rw [h6] at h; simpa using h
          rw [if_pos this]
          refine Ev.bind (strip2_ev kd fl id b hb) ?_
          refine Ev_ite (fun h5 => Ev_some ?_) fun h5 => Ev_ite (fun h11 => Ev_some ?_) fun h11 => Ev_some ?_
          · rw [if_neg (by omega), if_pos h5, h5]
          · rw [if_pos h11, h11]
          · rw [if_neg h11, if_neg h5]
    refine Ev_ite (fun h5 => ?_) fun h5 => ?_
    · have : ¬ placedB kd id = true := by simp [placedB, h5]
      rw [if_neg this]; exact Ev_some rfl
    · have j0 : ∀ c : Bool, c = decide (kd = 0 ∨ kd = 1 ∨ kd = 9) → Ev (fun k => bywashref1_Check.j0 k (b.size : Int) false false kd c kd fl id b)
          (if placedB kd id = true then (if sizedB kd fl (b.size : Int) = true then (if (strip kd fl b).2.2 = 11 then (1, 11) else if (strip kd fl b).2.2 = 5 then (6, 5) else (0, 0)) else (6, 5)) else (1, 11)) := by
        intro c hc
        have pl : ∀ s : Bool, streamedB kd = s → ¬ (kd = 4 ∨ kd = 6 ∨ kd = 7) → placedB kd id = (!s || decide (id ≠ 0)) := by
          intro s hs hn
          unfold placedB
          rw [if_neg h5, if_neg hn, hs]
        have pz : (kd = 4 ∨ kd = 6 ∨ kd = 7) → placedB kd id = decide (id = 0) := by
          intro hy
          unfold placedB
          rw [if_neg h5, if_pos hy]
        have ez : (id == 0) = decide (id = 0) := rfl
        have en : (id != 0) = !decide (id = 0) := rfl
        have ed : decide (id ≠ 0) = !decide (id = 0) := by simp
        refine Ev.step (fun k => bywashref1_Check.j0.eq_2 ..) ?_
        refine Ev_ite (fun h => ?_) fun h => ?_
        · have hk := of_decide_eq_true (hc.symm.trans h)
          refine j1 _ _ ?_ ?_
          · rw [pl true (decide_eq_true (by omega)) (by omega), ed]; simp [ez]
          · unfold sizedB
            rw [if_neg (by omega), if_neg (by omega), if_neg (by omega), if_neg (by omega), if_neg (by omega), if_neg (by omega)]; rfl
        · have hk : ¬ (kd = 0 ∨ kd = 1 ∨ kd = 9) := fun hh => h (hc.trans (decide_eq_true hh))
          refine Ev_ite (fun h2 => ?_) fun h2 => ?_
          · refine j1 _ _ ?_ ?_
            · rw [pl true (decide_eq_true (by omega)) (by omega), ed]; simp [ez]
            · unfold sizedB; rw [if_pos h2]; simp [bne, BEq.beq]
          refine Ev_ite (fun h3 => ?_) fun h3 => ?_
          · refine j1 _ _ ?_ ?_
            · rw [pl true (decide_eq_true (by omega)) (by omega), ed]; simp [ez]
            · unfold sizedB; rw [if_neg h2, if_pos h3]; simp [bne, BEq.beq]
          refine Ev_ite (fun h4 => ?_) fun h4 => ?_
          · have e4 : sizedB kd fl (b.size : Int) = decide ((b.size : Int) % 6 = 0 ∧ (Go.bits .and .i64 fl 1 = 0 ∨ (b.size : Int) = 0)) := by
              unfold sizedB
              rw [if_neg h2, if_neg h3, if_neg (by omega), if_neg (by omega), if_neg (by omega), if_pos h4]
            have hm : Int.tmod (b.size : Int) 6 = (b.size : Int) % 6 := Int.tmod_eq_emod_of_nonneg (by omega)
            rw [hm]
            refine Ev_ite (fun hd => ?_) fun hd => ?_
            · refine Ev_ite (fun ha => ?_) fun ha => ?_
              · refine j1 _ _ ?_ ?_
                · rw [pz (.inl h4)]; simp [en]
                · rw [e4]; simp [hd, ha]
              · refine j1 _ _ ?_ ?_
                · rw [pz (.inl h4)]; simp [en]
                · rw [e4]
                  by_cases h0 : b.size = 0
                  · simp [ha, h0]
                  · have : 0 < b.size := by omega
                    simp [hd, ha, h0, this]
            · refine j1 _ _ ?_ ?_
              · rw [pz (.inl h4)]; simp [en]
              · rw [e4]; simp [hd]
          refine Ev_ite (fun h6 => ?_) fun h6 => ?_
          · refine j1 _ _ ?_ ?_
            · rw [pz (.inr (.inl h6))]; simp [en]
            · unfold sizedB; rw [if_neg h2, if_neg h3, if_neg (by omega), if_pos h6]; simp [bne, BEq.beq]
          refine Ev_ite (fun h7 => ?_) fun h7 => ?_
          · refine j1 _ _ ?_ ?_
            · rw [pz (.inr (.inr h7))]; simp [en]
            · unfold sizedB; rw [if_neg h2, if_neg h3, if_neg (by omega), if_neg h6, if_pos h7]
              by_cases h8 : (b.size : Int) < 8
              · have : ¬ (b.size : Int) ≥ 8 := by omega
                rw [decide_eq_true h8, decide_eq_false this]; rfl
              · have : (b.size : Int) ≥ 8 := by omega
                rw [decide_eq_false h8, decide_eq_true this]; rfl
          refine Ev_ite (fun h8 => ?_) fun h8 => ?_
          · refine j1 _ _ ?_ ?_
            · rw [pl false (decide_eq_false (by omega)) (by omega)]; rfl
            · unfold sizedB; rw [if_neg h2, if_neg h3, if_pos h8]; simp [bne, BEq.beq]
          refine j1 _ _ ?_ ?_
          · rw [pl false (decide_eq_false (by omega)) (by omega)]; rfl
          · unfold sizedB
            rw [if_neg h2, if_neg h3, if_neg h8, if_neg h6, if_neg h7, if_neg h4]; rfl
      refine Ev_ite (fun h0 => ?_) fun h0 => Ev_ite (fun h1 => ?_) fun h1 => ?_
      · exact j0 _ (by simp [h0])
      · exact j0 _ (by simp [h1])
      · refine j0 _ ?_
        by_cases h9 : kd = 9 <;> simp [h0, h1, h9]
  · rw [if_neg hr]; exact Ev_some rfl
theorem known_run (kd : Int) : rule_Known.f kd = some (decide (0 ≤ kd ∧ kd ≤ 9)) := by
  unfold rule_Known.f
  by_cases h : kd ≥ 0
  · rw [if_pos h]; congr 1; exact decide_eq_decide.2 (by omega)
  · rw [if_neg h, decide_eq_false (by omega)]
def err (c : Int) : Int := if c = 0 then 0 else if c = 7 then 15 else if c = 8 then 17 else 16
theorem err_run (c : Int) : rule_Error.f c = some (err c) := by
  unfold rule_Error.f err
  split
  · rfl
  · split
    · rfl
    · split <;> rfl
theorem RuleTells : StaRuleTells.Pure := by
  intro ⟨kd, fl, id, b⟩ kind code _ _ _
  have j0_true : Ev (fun k => bywashlaw9_RuleTells.j0 k kind code true kd fl id b) true :=
    Ev.step (fun k => bywashlaw9_RuleTells.j0.eq_2 ..) (Ev_pos rfl (Ev.bind alive_ev (Ev_some rfl)))
  refine Ev.rounds ?_
  unfold bywashlaw9_RuleTells.f
  refine Ev_ite (fun _ => j0_true) fun h1 => ?_
  have hb : ¬ (b.size : Int) > 1000 := h1
  refine Ev.bind alive_ev ?_
  have j1 : ∀ (x y : Int) (c : Bool), c = streamedB kind → Ev (fun k => bywashlaw9_RuleTells.j1 k kind code x y x y c) true := by
    intro x y c hc
    subst hc
    refine Ev.step (fun k => bywashlaw9_RuleTells.j1.eq_2 ..) (Ev_pos rfl (Ev_pos rfl (Ev_bind0 (known_run kind) ?_)))
    have fin : Ev (fun k => (rule_Error.f code).bind fun t139 => ((bywashref1_ResetError.f code).bind fun t140 => (some (t139 == t140)))) true :=
      Ev_bind0 (err_run code) (Ev_bind0 (err_run code) (Ev_some (by simp)))
    have str : Ev (fun k => (rule_Streamed.f k kind).bind fun t138 => (if t138 = true then (if streamedB kind = true then ((rule_Error.f code).bind fun t139 => ((bywashref1_ResetError.f code).bind fun t140 => (some (t139 == t140)))) else (some false)) else (if streamedB kind = true then (some false) else ((rule_Error.f code).bind fun t141 => ((bywashref1_ResetError.f code).bind fun t142 => (some (t141 == t142))))))) true := by
      refine Ev.bind (streamed_ev kind) ?_
      refine Ev_ite (fun h => Ev_pos h fin) fun h => Ev_neg h fin
    refine Ev_ite (fun h0 => Ev_ite (fun hk => ?_) fun hk => ?_) fun h0 => ?_
    · have := of_decide_eq_true hk
      exact Ev_pos (by omega) str
    · have : ¬ (0 ≤ kind ∧ kind ≤ 9) := fun hh => hk (decide_eq_true hh)
      exact Ev_neg (by omega) str
    · refine Ev_neg ?_ str
      rw [decide_eq_false (by omega)]; simp
  refine Ev.step (fun k => bywashlaw9_RuleTells.j0.eq_2 ..) (Ev_neg (by simp) (Ev.bind (check_ev kd fl id b (by omega)) (Ev.bind (check2_ev kd fl id b (by omega)) ?_)))
  refine Ev_ite (fun h => j1 _ _ _ (by simp [streamedB, h])) fun h0 => ?_
  refine Ev_ite (fun h => j1 _ _ _ (by simp [streamedB, h])) fun h1 => ?_
  refine Ev_ite (fun h => j1 _ _ _ (by simp [streamedB, h])) fun h2 => ?_
  refine Ev_ite (fun h => j1 _ _ _ (by simp [streamedB, h])) fun h3 => ?_
  refine j1 _ _ _ ?_
  by_cases h9 : kind = 9 <;> simp [streamedB, h0, h1, h2, h3, h9]

end Go.Proofs.Ythbhipmflbbgnaa.Pure
