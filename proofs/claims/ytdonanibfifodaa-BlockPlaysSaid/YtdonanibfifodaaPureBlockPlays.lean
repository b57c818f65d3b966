/- Whatever frames come, in every order: each answer, which block is open. Conditions: those of the statement itself. -/
import Derived.Test.YtdonanibfifodaaPBlockPlaysx0
import Derived.Test.YtdonanibfifodaaPBlockPlaysx1
import Derived.Test.YtdonanibfifodaaPBlockPlaysx2
import Derived.Test.YtdonanibfifodaaPBlockPlaysx3
import Derived.Test.YtdonanibfifodaaPBlockPlaysx4
import Derived.Test.YtdonanibfifodaaPBlockPlaysx5
import Derived.Test.YtdonanibfifodaaPBlockPlaysx6
import Derived.Test.YtdonanibfifodaaPBlockPlaysx7
import Derived.Test.YtdonanibfifodaaPBlockPlaysx8
import Derived.Test.YtdonanibfifodaaPBlockPlaysx9
import Derived.Test.YtdonanibfifodaaAid
namespace Go.Proofs.Ytdonanibfifodaa.Pure
open Go.RowKit Go.Proofs.YtdonanibfifodaaW.PrintWords Go.Proofs.YtdonanibfifodaaW.PrintLast Go.Proofs.YtdonanibfifodaaW.PrintMore Go.Proofs.Ytdonanibfifodaa.Aid Go.Proofs.Ytdonanibfifodaa.PBlockPlays
set_option linter.unusedVariables false
set_option linter.unusedSimpArgs false

theorem tl_eq (a : ByteArray) : a.toList = a.data.toList := ByteArray.toList_eq a
theorem ba_ext {a b : ByteArray} (h : a.data = b.data) : a = b := by cases a; cases b; cases h; rfl
theorem ba_of_list {a b : ByteArray} (h : a.toList = b.toList) : a = b := by
  rw [tl_eq, tl_eq] at h
  exact ba_ext (Array.toList_inj.1 h)
theorem tl_nil (b : ByteArray) : b.toList = ([] : List UInt8) ↔ b.size = 0 := by
  rw [tl_eq]
  constructor
  · intro h
    have := congrArg List.length h
    rw [Array.length_toList] at this
    exact this
  · intro h
    have : b.data.toList.length = 0 := by rw [Array.length_toList]; exact h
    exact List.length_eq_zero_iff.1 this
theorem nil_of_size {c : ByteArray} (h : c.size = 0) : c = ⟨#[]⟩ := ba_of_list (by rw [(tl_nil c).2 h, (tl_nil _).2 rfl])
theorem bt_r (s : ByteArray) (i : Int) : 0 ≤ bt s i ∧ bt s i ≤ 255 := bt_range s i
def nth (s : ByteArray) (n : Nat) : Int := ((s.data[n]?).map fun x => (x.toNat : Int)).getD 0
theorem bt_nth (s : ByteArray) (i : Int) : bt s i = nth s i.toNat := by
  unfold bt nth
  by_cases h : i.toNat < s.size
  · rw [dif_pos h]
    have h' : i.toNat < s.data.size := h
    rw [Array.getElem?_eq_getElem h']
    rfl
  · rw [dif_neg h]
    have h' : s.data.size ≤ i.toNat := Nat.le_of_not_lt h
    rw [Array.getElem?_eq_none h']
    rfl
theorem nth_app (a b : ByteArray) (n : Nat) : nth (a ++ b) n = if n < a.size then nth a n else nth b (n - a.size) := by
  unfold nth
  rw [ByteArray.data_append]
  have hs : a.size = a.data.size := rfl
  by_cases h : n < a.size
  · rw [if_pos h, Array.getElem?_append_left (by omega)]
  · rw [if_neg h, Array.getElem?_append_right (by omega), ← hs]
theorem nth_cut (b : ByteArray) (lo hi n : Nat) (h : lo + n < hi) (hh : hi ≤ b.size) : nth (b.extract lo hi) n = nth b (lo + n) := by
  unfold nth
  rw [ByteArray.data_extract, Array.getElem?_extract, if_pos]
  have hs : b.size = b.data.size := rfl
  rw [← hs]; omega
theorem nth_nums (l : List Int) (n : Nat) (h : n < l.length) (h0 : 0 ≤ l[n]) : nth (strOfNums l) n = l[n] % 256 := by
  unfold nth strOfNums
  simp only [List.getElem?_toArray, List.getElem?_map, List.getElem?_eq_getElem h, Option.map_some, Option.getD_some, UInt8.toNat_ofNat']
  omega
theorem nth_ext {a b : ByteArray} (hs : a.size = b.size) (h : ∀ n, n < a.size → nth a n = nth b n) : a = b := by
  apply ba_ext
  apply Array.ext hs
  intro i h1 h2
  have := h i h1
  unfold nth at this
  rw [Array.getElem?_eq_getElem h1, Array.getElem?_eq_getElem h2] at this
  simp only [Option.map_some, Option.getD_some] at this
  exact UInt8.toNat_inj.1 (by omega)
theorem app_size (a b : ByteArray) : (a ++ b).size = a.size + b.size := ByteArray.size_append
theorem app_assoc (a b c : ByteArray) : a ++ b ++ c = a ++ (b ++ c) := by
  apply ba_ext
  simp only [ByteArray.data_append, Array.append_assoc]
theorem app_nil (a : ByteArray) (b : ByteArray) (h : b.size = 0) : a ++ b = a := by
  apply ba_ext
  rw [ByteArray.data_append]
  have : b.data = #[] := Array.eq_empty_of_size_eq_zero h
  rw [this, Array.append_empty]
theorem nil_app (b : ByteArray) : (⟨#[]⟩ : ByteArray) ++ b = b := by
  apply ba_ext
  rw [ByteArray.data_append]
  exact Array.empty_append
theorem cut_size (b : ByteArray) (lo hi : Nat) (h : lo ≤ hi) (hh : hi ≤ b.size) : (b.extract lo hi).size = hi - lo := by rw [ByteArray.size_extract]; omega
theorem cut_all (b : ByteArray) : b.extract 0 b.size = b := by
  apply ba_ext
  rw [ByteArray.data_extract]
  exact Array.extract_size
theorem cut_join (b : ByteArray) (m : Nat) (h : m ≤ b.size) : b.extract 0 m ++ b.extract m b.size = b := by
  apply ba_ext
  have hs : b.size = b.data.size := rfl
  rw [ByteArray.data_append, ByteArray.data_extract, ByteArray.data_extract, Array.extract_append_extract]
  have e1 : min 0 m = 0 := by omega
  have e2 : max m b.size = b.data.size := by rw [← hs]; omega
  rw [e1, e2, Array.extract_size]
theorem cut_left (a b : ByteArray) : (a ++ b).extract 0 a.size = a := by
  apply nth_ext
  · rw [cut_size _ _ _ (Nat.zero_le _) (by rw [app_size]; omega)]; omega
  · intro n hn
    rw [cut_size _ _ _ (Nat.zero_le _) (by rw [app_size]; omega)] at hn
    rw [nth_cut _ _ _ _ (by omega) (by rw [app_size]; omega), nth_app, if_pos (by omega), Nat.zero_add]
theorem cut_right (a b : ByteArray) : (a ++ b).extract a.size (a ++ b).size = b := by
  have hs := app_size a b
  apply nth_ext
  · rw [cut_size _ _ _ (by omega) (Nat.le_refl _)]; omega
  · intro n hn
    rw [cut_size _ _ _ (by omega) (Nat.le_refl _)] at hn
    rw [nth_cut _ _ _ _ (by omega) (Nat.le_refl _), nth_app, if_neg (by omega), Nat.add_sub_cancel_left]
theorem mask63 (i : Nat) (hi : i ≤ 62) (x : Int) (h0 : 0 ≤ x) (h1 : x < 2 ^ 62) : Go.bits .and .i64 x (2 ^ i - 1) = x % 2 ^ i :=
  bits_mask .i64 62 (by decide) (fun n h0 h1 => by rw [IntKind.wrap_i64]; omega) i hi x h0 h1
theorem or_byte (x y : Int) (hx : 0 ≤ x) (hx' : x ≤ 1099511627776) (hy : 0 ≤ y) (hy' : y ≤ 255) : Go.bits .or .i64 (wrap64 (x * 256)) (wrap64 y) = x * 256 + y := by
  rw [wid (by omega) (by omega), wid (by omega) (by omega)]
  exact bits_join .i64 62 (by decide) (fun n h0 h1 => by rw [IntKind.wrap_i64]; omega) 8 (x * 256) y (by omega) (by omega) (by omega) hy (by omega) (by omega)

def bare (fl : Int) (b : ByteArray) : ByteArray × Bool :=
  if Go.bits .and .i64 fl 8 = 0 then (b, true) else if b.size = 0 then (⟨#[]⟩, false) else if bt b 0 > (b.size : Int) - 1 then (⟨#[]⟩, false) else (b.extract 1 ((b.size : Int) - bt b 0).toNat, true)
theorem bare_run (kd fl id : Int) (b : ByteArray) (hb : b.size ≤ 4611686018427387904) : frame_bare.f kd fl id b = some (bare fl b) := by
  have hr := bt_r b 0
  unfold frame_bare.f bare
  by_cases h1 : Go.bits .and .i64 fl 8 = 0
  · rw [if_pos h1, if_pos h1]
  · rw [if_neg h1, if_neg h1]
    by_cases h2 : b.size = 0
    · rw [if_pos ((tl_nil b).2 h2), if_pos h2]
    · rw [if_neg (fun h => h2 ((tl_nil b).1 h)), if_neg h2, if_pos (by omega), wid (x := bt b 0) (by omega) (by omega), wid (x := (b.size : Int) - 1) (by omega) (by omega), wid (x := (b.size : Int) - bt b 0) (by omega) (by omega)]
      by_cases h3 : bt b 0 > (b.size : Int) - 1
      · rw [if_pos h3, if_pos h3]
      · rw [if_neg h3, if_neg h3, if_pos (by omega), if_pos (by omega)]
def unweigh (w : Bool) (body b : ByteArray) : ByteArray × Int × Int :=
  if w = true then (if (body.size : Int) < 5 then (⟨#[]⟩, 0, 5) else (body.extract 5 body.size, (b.size : Int) - ((body.extract 5 body.size).size : Int), 0)) else (body, (b.size : Int) - (body.size : Int), 0)
def strip (kd fl : Int) (b : ByteArray) : ByteArray × Int × Int :=
  if kd = 0 ∨ kd = 1 then (if (bare fl b).2 = true then unweigh (decide (kd = 1) && (Go.bits .and .i64 fl 32 != 0)) (bare fl b).1 b else (⟨#[]⟩, 0, 11)) else (b, 0, 0)
theorem bare_size (fl : Int) (b : ByteArray) : (bare fl b).1.size ≤ b.size := by
  unfold bare
  split
  · exact Nat.le_refl _
  · split
    · exact Nat.zero_le _
    · split
      · exact Nat.zero_le _
      · simp [ByteArray.size_extract]; omega
theorem strip_ev (kd fl id : Int) (b : ByteArray) (hb : b.size ≤ 4611686018427387904) : Ev (fun k => frame_Strip.f k kd fl id b) (strip kd fl b) := by
  have hs := bare_size fl b
  have j1 : ∀ w c : Bool, c = (w && decide (((bare fl b).1.size : Int) < 5)) → Ev (fun k => frame_Strip.j1 k w (bare fl b).1 c kd fl id b) (unweigh w (bare fl b).1 b) := by
    intro w c hc
    refine Ev.step (fun k => frame_Strip.j1.eq_2 ..) ?_
    cases w with
    | true =>
      simp only [Bool.true_and] at hc
      by_cases h5 : ((bare fl b).1.size : Int) < 5
      · exact Ev_pos (by rw [hc]; exact decide_eq_true h5) (Ev_some (by simp [unweigh, h5]))
      · refine Ev_neg (by rw [hc]; simpa using h5) (Ev_pos rfl (Ev_pos (by omega) (Ev_some ?_)))
        have he : ((bare fl b).1.extract 5 (bare fl b).1.size).size ≤ (bare fl b).1.size := by simp [ByteArray.size_extract]
        rw [wid (by omega) (by omega)]
        simp [unweigh, h5]
    | false =>
      simp only [Bool.false_and] at hc
      refine Ev_neg (by rw [hc]; simp) (Ev_neg (by simp) (Ev_some ?_))
      rw [wid (by omega) (by omega)]
      simp [unweigh]
  have j0 : ∀ w : Bool, (kd = 0 ∨ kd = 1) → w = (decide (kd = 1) && (Go.bits .and .i64 fl 32 != 0)) → Ev (fun k => frame_Strip.j0 k w kd fl id b) (strip kd fl b) := by
    intro w hk hw
    refine Ev.step (fun k => frame_Strip.j0.eq_2 ..) (Ev_bind0 (bare_run kd fl id b hb) ?_)
    unfold strip
    rw [if_pos hk, ← hw]
    by_cases h2 : (bare fl b).2 = true
    · rw [if_pos h2]
      refine Ev_pos h2 ?_
      cases w with
      | true => exact Ev_pos rfl (j1 true _ (by simp))
      | false => exact Ev_neg (by simp) (j1 false _ (by simp))
    · rw [if_neg h2]
      exact Ev_neg h2 (Ev_some rfl)
  unfold frame_Strip.f
  by_cases h1 : kd = 1
  · exact Ev_pos h1 (j0 _ (.inr h1) (by simp [h1]))
  · refine Ev_neg h1 ?_
    by_cases h0 : kd = 0
    · exact Ev_pos h0 (j0 _ (.inl h0) (by simp [h1]))
    · refine Ev_neg h0 (Ev_some ?_)
      unfold strip
      rw [if_neg (by omega)]
theorem strip_err (kd fl : Int) (b : ByteArray) : (strip kd fl b).2.2 = 0 ∨ (strip kd fl b).2.2 = 5 ∨ (strip kd fl b).2.2 = 11 := by
  unfold strip
  split
  · split
    · unfold unweigh
      split
      · split <;> simp
      · simp
    · simp
  · simp
def rightB (kd fl id : Int) (b : ByteArray) : Bool := decide (0 ≤ kd ∧ kd ≤ 255 ∧ 0 ≤ fl ∧ fl ≤ 255 ∧ 0 ≤ id ∧ id ≤ 2147483647 ∧ b.size ≤ 16777215)
theorem right_run (kd fl id : Int) (b : ByteArray) : frame_Right.f kd fl id b = some (rightB kd fl id b) := by
  unfold frame_Right.f rightB
  by_cases h1 : kd ≥ 0
  · by_cases h2 : kd ≤ 255
    · by_cases h3 : fl ≥ 0
      · by_cases h4 : fl ≤ 255
        · by_cases h5 : id ≥ 0
          · by_cases h6 : id ≤ 2147483647
            · rw [if_pos h1, if_pos h2, if_pos h3, if_pos h4, if_pos h5, if_pos h6]
              congr 1
              exact decide_eq_decide.2 (by omega)
            · rw [if_pos h1, if_pos h2, if_pos h3, if_pos h4, if_pos h5, if_neg h6, decide_eq_false (by omega)]
          · rw [if_pos h1, if_pos h2, if_pos h3, if_pos h4, if_neg h5, decide_eq_false (by omega)]
        · rw [if_pos h1, if_pos h2, if_pos h3, if_neg h4, decide_eq_false (by omega)]
      · rw [if_pos h1, if_pos h2, if_neg h3, decide_eq_false (by omega)]
    · rw [if_pos h1, if_neg h2, decide_eq_false (by omega)]
  · rw [if_neg h1, decide_eq_false (by omega)]
def streamedB (kd : Int) : Bool := decide (kd = 0 ∨ kd = 1 ∨ kd = 2 ∨ kd = 3 ∨ kd = 9)
theorem streamed_ev (kd : Int) : Ev (fun k => rule_Streamed.f k kd) (streamedB kd) := by
  unfold rule_Streamed.f
  refine Ev_ite (fun h => Ev_some (by simp [streamedB, h])) fun h0 => ?_
  have j0 : ∀ c : Bool, c = decide (kd = 1 ∨ kd = 2) → Ev (fun k => rule_Streamed.j0 k kd c) (streamedB kd) := by
    intro c hc
    refine Ev.step (fun k => rule_Streamed.j0.eq_2 ..) ?_
    refine Ev_ite (fun h => Ev_some ?_) fun h1 => Ev_ite (fun h => Ev_some (by simp [streamedB, h])) fun h3 => Ev_ite (fun h => Ev_some (by simp [streamedB, h])) fun h9 => Ev_some ?_
    · have := of_decide_eq_true (hc.symm.trans h)
      unfold streamedB
      rw [decide_eq_true (by omega)]
    · have : ¬ (kd = 1 ∨ kd = 2) := fun hh => h1 (hc.trans (decide_eq_true hh))
      unfold streamedB
      rw [decide_eq_false (by omega)]
  by_cases h1 : kd = 1
  · exact Ev_pos h1 (j0 _ (by simp [h1]))
  · exact Ev_neg h1 (j0 _ (by
      by_cases h2 : kd = 2 <;> simp [h1, h2]))
def placedB (kd id : Int) : Bool := if kd = 5 then false else if kd = 4 ∨ kd = 6 ∨ kd = 7 then decide (id = 0) else !streamedB kd || decide (id ≠ 0)
theorem placed_ev (kd fl id : Int) (b : ByteArray) : Ev (fun k => rule_placed.f k kd fl id b) (placedB kd id) := by
  unfold rule_placed.f placedB
  by_cases h5 : kd = 5
  · rw [if_pos h5]; exact Ev_pos h5 (Ev_some rfl)
  · rw [if_neg h5]
    refine Ev_neg h5 ?_
    by_cases h4 : kd = 4
    · rw [if_pos (.inl h4)]
      exact Ev_pos h4 (Ev_some rfl)
    · refine Ev_neg h4 ?_
      by_cases h6 : kd = 6
      · rw [if_pos (.inr (.inl h6))]
        exact Ev_pos h6 (Ev_some rfl)
      · refine Ev_neg h6 ?_
        by_cases h7 : kd = 7
        · rw [if_pos (.inr (.inr h7))]
          exact Ev_pos h7 (Ev_some rfl)
        · rw [if_neg (by omega)]
          refine Ev_neg h7 (Ev.bind (streamed_ev kd) ?_)
          refine Ev_ite (fun h => Ev_some ?_) fun h => Ev_some ?_
          · rw [h]
            by_cases hi : id = 0 <;> simp [hi]
          · simp at h
            simp [h]
def sizedB (kd fl : Int) (n : Int) : Bool :=
  if kd = 2 then decide (n = 5) else if kd = 3 then decide (n = 4) else if kd = 8 then decide (n = 4) else if kd = 6 then decide (n = 8) else if kd = 7 then decide (n ≥ 8) else
  if kd = 4 then decide (n % 6 = 0 ∧ (Go.bits .and .i64 fl 1 = 0 ∨ n = 0)) else true
theorem sized_run (kd fl id : Int) (b : ByteArray) : rule_sized.f kd fl id b = some (sizedB kd fl (b.size : Int)) := by
  unfold rule_sized.f sizedB
  by_cases h2 : kd = 2
  · rw [if_pos h2, if_pos h2]; rfl
  · rw [if_neg h2, if_neg h2]
    by_cases h3 : kd = 3
    · rw [if_pos h3, if_pos h3]; rfl
    · rw [if_neg h3, if_neg h3]
      by_cases h8 : kd = 8
      · rw [if_pos h8, if_pos h8]; rfl
      · rw [if_neg h8, if_neg h8]
        by_cases h6 : kd = 6
        · rw [if_pos h6, if_pos h6]; rfl
        · rw [if_neg h6, if_neg h6]
          by_cases h7 : kd = 7
          · rw [if_pos h7, if_pos h7]
          · rw [if_neg h7, if_neg h7]
            by_cases h4 : kd = 4
            · rw [if_pos h4, if_pos h4]
              by_cases hm : (b.size : Int) % 6 = 0
              · rw [if_pos hm]
                by_cases ha : Go.bits .and .i64 fl 1 = 0
                · rw [if_pos ha]; simp [hm, ha]
                · rw [if_neg ha]
                  by_cases h0 : b.size = 0 <;> simp [hm, ha, h0]
              · rw [if_neg hm]; simp [hm]
            · rw [if_neg h4, if_neg h4]
/-- What rule says of a frame. -/
def chk (kd fl id : Int) (b : ByteArray) : Int × Int :=
  if rightB kd fl id b = true then (if placedB kd id = true then (if sizedB kd fl (b.size : Int) = true then (if (strip kd fl b).2.2 = 11 then (1, 11) else if (strip kd fl b).2.2 = 5 then (6, 5) else (0, 0)) else (6, 5)) else (1, 11)) else (1, 1)
theorem check_ev (kd fl id : Int) (b : ByteArray) (hb : b.size ≤ 4611686018427387904) : Ev (fun k => rule_Check.f k kd fl id b) (chk kd fl id b) := by
  unfold rule_Check.f chk
  refine Ev_bind0 (right_run kd fl id b) ?_
  by_cases h1 : rightB kd fl id b = true
  · rw [if_pos h1]
    refine Ev_pos h1 (Ev.bind (placed_ev kd fl id b) ?_)
    by_cases h2 : placedB kd id = true
    · rw [if_pos h2]
      refine Ev_pos h2 (Ev_bind0 (sized_run kd fl id b) ?_)
      by_cases h3 : sizedB kd fl (b.size : Int) = true
      · rw [if_pos h3]
        refine Ev_pos h3 (Ev.bind (strip_ev kd fl id b hb) ?_)
        refine Ev_ite (fun h4 => Ev_some ?_) (fun h4 => Ev_ite (fun h5 => Ev_some ?_) fun h5 => Ev_some ?_)
        · rw [if_pos h4, h4]
        · rw [if_neg h4, if_pos h5, h5]
        · rw [if_neg h4, if_neg h5]
      · rw [if_neg h3]; exact Ev_neg h3 (Ev_some rfl)
    · rw [if_neg h2]; exact Ev_neg h2 (Ev_some rfl)
  · rw [if_neg h1]; exact Ev_neg h1 (Ev_some rfl)

theorem new_run (m : Int) (h : 1 ≤ m) : block_New.f m = some (m, 0, (⟨#[]⟩ : ByteArray), false) := by
  unfold block_New.f; rw [if_neg (by omega)]
/-- A frame behind what is open: the block, whether it is whole, the error. -/
def takev (m id : Int) (b : ByteArray) (en : Bool) (kd fl fid : Int) (body : ByteArray) : Int × ByteArray × Bool × Bool × Int :=
  if ¬ (chk kd fl fid body).2 = 0 then (0, (⟨#[]⟩ : ByteArray), false, false, 1)
  else if id = 0 ∧ kd = 1 then (if ((strip kd fl body).1.size : Int) > m then (0, (⟨#[]⟩ : ByteArray), false, false, 5) else (fid, (strip kd fl body).1, (Go.bits .and .i64 fl 1 != 0), (Go.bits .and .i64 fl 4 != 0), 0))
  else if id = 0 ∧ kd ≠ 9 then (0, (⟨#[]⟩ : ByteArray), false, false, 0)
  else if id = 0 ∨ kd ≠ 9 ∨ fid ≠ id then (0, (⟨#[]⟩ : ByteArray), false, false, 11)
  else if ((b ++ (strip kd fl body).1).size : Int) > m then (0, (⟨#[]⟩ : ByteArray), false, false, 5) else (id, b ++ (strip kd fl body).1, en, (Go.bits .and .i64 fl 4 != 0), 0)
theorem unweigh_size (w : Bool) (c b : ByteArray) : (unweigh w c b).1.size ≤ c.size := by
  unfold unweigh
  split
  · split
    · exact Nat.zero_le _
    · simp only [ByteArray.size_extract]; omega
  · exact Nat.le_refl _
theorem strip_size (kd fl : Int) (b : ByteArray) : (strip kd fl b).1.size ≤ b.size := by
  unfold strip
  split
  · split
    · exact Nat.le_trans (unweigh_size _ _ _) (bare_size fl b)
    · exact Nat.zero_le _
  · exact Nat.le_refl _
theorem take_ev (m id : Int) (b : ByteArray) (en : Bool) (kd fl fid : Int) (body : ByteArray) (hb : b.size ≤ 1000000000000) (hbody : body.size ≤ 1000000000000) :
    Ev (fun k => block_Blocks_take.f k m id b en kd fl fid body) ((takev m id b en kd fl fid body).1, (takev m id b en kd fl fid body).2.1, (takev m id b en kd fl fid body).2.2.1, (takev m id b en kd fl fid body).2.2.2.1, (takev m id b en kd fl fid body).2.2.2.2, m, id, b, en) := by
  have hs := strip_size kd fl body
  unfold block_Blocks_take.f
  refine Ev.bind (check_ev kd fl fid body (by omega)) (Ev.bind (strip_ev kd fl fid body (by omega)) ?_)
  refine Ev_ite (fun h0 => ?_) fun h0 => ?_
  · have j2 : ∀ t : Bool, ¬ (id = 0 ∧ kd = 1) → ¬ (id = 0 ∧ kd ≠ 9) → t = decide (id = 0 ∨ kd ≠ 9 ∨ fid ≠ id) →
        Ev (fun k => block_Blocks_take.j2 k (strip kd fl body).1 t m id b en kd fl fid body id b en) ((takev m id b en kd fl fid body).1, (takev m id b en kd fl fid body).2.1, (takev m id b en kd fl fid body).2.2.1, (takev m id b en kd fl fid body).2.2.2.1, (takev m id b en kd fl fid body).2.2.2.2, m, id, b, en) := by
      intro t n1 n2 ht
      unfold takev
      rw [if_neg (show ¬ ¬ (chk kd fl fid body).2 = 0 from fun h => h h0), if_neg n1, if_neg n2]
      refine Ev.step (fun k => block_Blocks_take.j2.eq_2 ..) ?_
      refine Ev_ite (fun h => ?_) fun h => ?_
      · rw [if_pos (of_decide_eq_true (ht.symm.trans h))]; exact Ev_some rfl
      · rw [if_neg (fun hh => h (ht.trans (decide_eq_true hh)))]
        refine Ev_pos (by omega) (Ev_ite (fun h5 => ?_) fun h5 => ?_)
        · rw [if_pos h5]; exact Ev_some rfl
        · rw [if_neg h5]; exact Ev_some rfl
    have j1 : ∀ t : Bool, ¬ (id = 0 ∧ kd = 1) → t = decide (id = 0 ∧ kd ≠ 9) →
        Ev (fun k => block_Blocks_take.j1 k (strip kd fl body).1 t m id b en kd fl fid body id b en) ((takev m id b en kd fl fid body).1, (takev m id b en kd fl fid body).2.1, (takev m id b en kd fl fid body).2.2.1, (takev m id b en kd fl fid body).2.2.2.1, (takev m id b en kd fl fid body).2.2.2.2, m, id, b, en) := by
      intro t n1 ht
      refine Ev.step (fun k => block_Blocks_take.j1.eq_2 ..) ?_
      refine Ev_ite (fun h => ?_) fun h => ?_
      · have n2 := of_decide_eq_true (ht.symm.trans h)
        unfold takev
        rw [if_neg (show ¬ ¬ (chk kd fl fid body).2 = 0 from fun h => h h0), if_neg n1, if_pos n2]; exact Ev_some rfl
      · have n2 : ¬ (id = 0 ∧ kd ≠ 9) := fun hh => h (ht.trans (decide_eq_true hh))
        refine Ev_ite (fun hi => ?_) fun hi => ?_
        · exact j2 true n1 n2 (decide_eq_true (.inl hi)).symm
        · refine Ev_ite (fun hk => ?_) fun hk => ?_
          · refine j2 _ n1 n2 ?_
            by_cases hf : fid = id
            · rw [decide_eq_false (by omega)]; simp [hf]
            · rw [decide_eq_true (.inr (.inr hf))]; simp [hf]
          · exact j2 true n1 n2 (decide_eq_true (.inr (.inl hk))).symm
    have j0 : ∀ t : Bool, t = decide (id = 0 ∧ kd = 1) →
        Ev (fun k => block_Blocks_take.j0 k (strip kd fl body).1 t m id b en kd fl fid body id b en) ((takev m id b en kd fl fid body).1, (takev m id b en kd fl fid body).2.1, (takev m id b en kd fl fid body).2.2.1, (takev m id b en kd fl fid body).2.2.2.1, (takev m id b en kd fl fid body).2.2.2.2, m, id, b, en) := by
      intro t ht
      refine Ev.step (fun k => block_Blocks_take.j0.eq_2 ..) ?_
      refine Ev_ite (fun h => ?_) fun h => ?_
      · have n1 := of_decide_eq_true (ht.symm.trans h)
        unfold takev
        rw [if_neg (show ¬ ¬ (chk kd fl fid body).2 = 0 from fun h => h h0), if_pos n1]
        simp only [nil_app]
        refine Ev_pos (by omega) (Ev_ite (fun h5 => ?_) fun h5 => ?_)
        · rw [if_pos h5]; exact Ev_some rfl
        · rw [if_neg h5]; exact Ev_some rfl
      · have n1 : ¬ (id = 0 ∧ kd = 1) := fun hh => h (ht.trans (decide_eq_true hh))
        refine Ev_ite (fun hi => ?_) fun hi => ?_
        · refine j1 _ n1 ?_
          by_cases hk : kd = 9
          · rw [decide_eq_false (fun hh => hh.2 hk)]; simp [hk]
          · rw [decide_eq_true ⟨hi, hk⟩]; simp [hk]
        · exact j1 false n1 (decide_eq_false (fun hh => hi hh.1)).symm
    refine Ev_ite (fun hi => ?_) fun hi => ?_
    · refine j0 _ ?_
      by_cases hk : kd = 1
      · rw [decide_eq_true ⟨hi, hk⟩]; simp [hk]
      · rw [decide_eq_false (fun hh => hk hh.2)]; simp [hk]
    · exact j0 false (decide_eq_false (fun hh => hi hh.1)).symm
  · unfold takev
    rw [if_pos h0]; exact Ev_some rfl
/-- What a frame gives, and what is open behind it. -/
def giv (m : Int) (t : Int × ByteArray × Bool × Bool × Int) : Int × ByteArray × Bool × Bool × Int × Int × Int × ByteArray × Bool :=
  if t.2.2.2.2 = 0 ∧ t.2.2.2.1 = false then (0, (⟨#[]⟩ : ByteArray), false, false, 0, m, t.1, t.2.1, t.2.2.1) else (t.1, t.2.1, t.2.2.1, t.2.2.2.1, t.2.2.2.2, m, 0, (⟨#[]⟩ : ByteArray), false)
theorem Take_ev (m id : Int) (b : ByteArray) (en : Bool) (kd fl fid : Int) (body : ByteArray) (hb : b.size ≤ 1000000000000) (hbody : body.size ≤ 1000000000000) :
    Ev (fun k => block_Blocks_Take.f k m id b en kd fl fid body) (giv m (takev m id b en kd fl fid body)) := by
  unfold block_Blocks_Take.f
  refine Ev.bind (take_ev m id b en kd fl fid body hb hbody) ?_
  generalize takev m id b en kd fl fid body = t
  obtain ⟨t1, t2, t3, t4, t5⟩ := t
  unfold giv
  refine Ev_ite (fun h => ?_) fun h => ?_
  · simp only [] at h
    cases t4 with
    | true => exact Ev.step (fun k => block_Blocks_Take.j0.eq_2 ..) (Ev_neg (by simp) (Ev.step (fun k => block_Blocks_Take.j1.eq_2 ..) (Ev_some (by simp))))
    | false => exact Ev.step (fun k => block_Blocks_Take.j0.eq_2 ..) (Ev_pos rfl (Ev.step (fun k => block_Blocks_Take.j1.eq_2 ..) (Ev_some (by simp [h]))))
  · simp only [] at h
    exact Ev.step (fun k => block_Blocks_Take.j0.eq_2 ..) (Ev_neg (by simp) (Ev.step (fun k => block_Blocks_Take.j1.eq_2 ..) (Ev_some (by simp [h]))))
/-- A block as frames: the first of this kind, with these flags. -/
def cutf (id m : Int) : Nat → Int → Int → ByteArray → List S39
  | 0, kd, fl, b => [⟨kd, Go.bits .or .i64 fl 4, id, b⟩]
  | n + 1, kd, fl, b => if (b.size : Int) > m then ⟨kd, fl, id, b.extract 0 m.toNat⟩ :: cutf id m n 9 0 (b.extract m.toNat b.size) else [⟨kd, Go.bits .or .i64 fl 4, id, b⟩]
theorem cutf_gt (id m : Int) (n : Nat) (kd fl : Int) (b : ByteArray) (h : (b.size : Int) > m) : cutf id m (n + 1) kd fl b = ⟨kd, fl, id, b.extract 0 m.toNat⟩ :: cutf id m n 9 0 (b.extract m.toNat b.size) := by
  show (if (b.size : Int) > m then _ else _) = _
  rw [if_pos h]
theorem cutf_le (id m : Int) (n : Nat) (kd fl : Int) (b : ByteArray) (h : ¬ (b.size : Int) > m) : cutf id m n kd fl b = [⟨kd, Go.bits .or .i64 fl 4, id, b⟩] := by
  cases n with
  | zero => rfl
  | succ n => show (if (b.size : Int) > m then _ else _) = _; rw [if_neg h]
theorem cut_l0 (id m : Int) (hm : 64 ≤ m) (n : Nat) : ∀ (b : ByteArray) (acc : List S39) (kd fl : Int) (b0 : ByteArray), b.size ≤ n → acc.length + n ≤ 100000 →
    Ev (fun k => block_Cut.l0 k id b m acc kd fl id b0) (acc ++ cutf id m n kd fl b, true) := by
  induction n with
  | zero =>
    intro b acc kd fl b0 hb ha
    exact Ev.step (fun k => block_Cut.l0.eq_2 ..) (Ev_neg (by omega) (Ev_pos (by omega) (Ev_some rfl)))
  | succ n ih =>
    intro b acc kd fl b0 hb ha
    refine Ev.step (fun k => block_Cut.l0.eq_2 ..) ?_
    unfold cutf
    refine Ev_ite (fun h => ?_) fun h => ?_
    · rw [if_pos h]
      refine Ev_pos (by omega) (Ev_pos (by omega) (Ev_pos (by omega) ?_))
      have hc := cut_size b m.toNat b.size (by omega) (by omega)
      have := ih (b.extract m.toNat b.size) (acc ++ [⟨kd, fl, id, b.extract 0 m.toNat⟩]) 9 0 (⟨#[]⟩ : ByteArray) (by omega) (by rw [List.length_append]; show acc.length + 1 + n ≤ _; omega)
      rw [List.append_assoc] at this
      exact this
    · rw [if_neg h]
      exact Ev_pos (by omega) (Ev_some rfl)
def cutl (id : Int) (b : ByteArray) (en : Bool) (m : Int) : List S39 := cutf id m b.size 1 (if en = true then 1 else 0) b
theorem cut_ev (id : Int) (b : ByteArray) (en : Bool) (m : Int) (h1 : 1 ≤ id) (h2 : id ≤ 2147483647) (h3 : 64 ≤ m) (h4 : m ≤ 512) (hb : b.size ≤ 10000) : Ev (fun k => block_Cut.f k id b en m) (cutl id b en m, true) := by
  unfold block_Cut.f cutl
  refine Ev_neg (by omega) (Ev_neg (by omega) (Ev_neg (by omega) ?_))
  refine Ev.step (fun k => block_Cut.j0.eq_2 ..) (Ev_neg (by simp; omega) ?_)
  have key : ∀ fl : Int, Ev (fun k => block_Cut.j1 k id b m ([] : List S39) 1 fl id (⟨#[]⟩ : ByteArray)) (cutf id m b.size 1 fl b, true) := by
    intro fl
    refine Ev.step (fun k => block_Cut.j1.eq_2 ..) ?_
    exact cut_l0 id m h3 b.size b [] 1 fl _ (Nat.le_refl _) (by simp; omega)
  refine Ev_ite (fun h => ?_) fun h => ?_
  · rw [if_pos h]; exact key 1
  · rw [if_neg h]; exact key 0
theorem cut_no (id : Int) (b : ByteArray) (en : Bool) (m : Int) (h : ¬ (1 ≤ id ∧ id ≤ 2147483647 ∧ 64 ≤ m ∧ m ≤ 512)) : Ev (fun k => block_Cut.f k id b en m) (([] : List S39), false) := by
  unfold block_Cut.f
  have j0 : Ev (fun k => block_Cut.j0 k id b en m true) (([] : List S39), false) := Ev.step (fun k => block_Cut.j0.eq_2 ..) (Ev_pos rfl (Ev_some rfl))
  refine Ev_ite (fun _ => j0) fun h1 => Ev_ite (fun _ => j0) fun h2 => Ev_ite (fun _ => j0) fun h3 => ?_
  rw [decide_eq_true (show m > 512 by omega)]
  exact j0
/-- Flags without padding and weight. -/
def plainF (fl : Int) : Prop := Go.bits .and .i64 fl 8 = 0 ∧ (Go.bits .and .i64 fl 32 != 0) = false ∧ 0 ≤ fl ∧ fl ≤ 255
theorem strip_plain (kd fl : Int) (b : ByteArray) (h : plainF fl) : strip kd fl b = (b, 0, 0) := by
  obtain ⟨h8, h32, _⟩ := h
  have hb : bare fl b = (b, true) := by unfold bare; rw [if_pos h8]
  unfold strip
  split
  · rw [hb]; simp only [if_true, h32, Bool.and_false]
    unfold unweigh
    simp
  · rfl
theorem chk_head (kd fl id : Int) (b : ByteArray) (hk : kd = 1 ∨ kd = 9) (h : plainF fl) (h1 : 1 ≤ id) (h2 : id ≤ 2147483647) (hb : b.size ≤ 10000) : chk kd fl id b = (0, 0) := by
  have hr : rightB kd fl id b = true := by
    obtain ⟨_, _, h3, h4⟩ := h
    exact decide_eq_true (by omega)
  have hp : placedB kd id = true := by
    rcases hk with rfl | rfl <;> simp [placedB, streamedB] <;> omega
  have hz : sizedB kd fl (b.size : Int) = true := by
    rcases hk with rfl | rfl <;> simp [sizedB]
  unfold chk
  rw [if_pos hr, if_pos hp, if_pos hz, strip_plain kd fl b h]
  simp
theorem take_head (m fl id : Int) (b b0 : ByteArray) (en : Bool) (h : plainF fl) (h1 : 1 ≤ id) (h2 : id ≤ 2147483647) (hb : b.size ≤ 10000) : takev m 0 b0 en 1 fl id b = if (b.size : Int) > m then (0, (⟨#[]⟩ : ByteArray), false, false, 5) else (id, b, (Go.bits .and .i64 fl 1 != 0), (Go.bits .and .i64 fl 4 != 0), 0) := by
  unfold takev
  rw [chk_head 1 fl id b (.inl rfl) h h1 h2 hb, if_neg (by simp), if_pos ⟨rfl, rfl⟩, strip_plain 1 fl b h]
theorem take_cont (m fl id : Int) (b b0 : ByteArray) (en : Bool) (h : plainF fl) (h1 : 1 ≤ id) (h2 : id ≤ 2147483647) (hb : b.size ≤ 10000) : takev m id b0 en 9 fl id b = if ((b0 ++ b).size : Int) > m then (0, (⟨#[]⟩ : ByteArray), false, false, 5) else (id, b0 ++ b, en, (Go.bits .and .i64 fl 4 != 0), 0) := by
  unfold takev
  rw [chk_head 9 fl id b (.inr rfl) h h1 h2 hb, if_neg (by simp), if_neg (by omega), if_neg (by omega), if_neg (by omega), strip_plain 9 fl b h]
theorem p0 : plainF 0 := by refine ⟨by decide, by decide, by decide, by decide⟩
theorem p1 : plainF 1 := by refine ⟨by decide, by decide, by decide, by decide⟩
theorem p4 : plainF (Go.bits .or .i64 0 4) := by refine ⟨by decide, by decide, by decide, by decide⟩
theorem p5 : plainF (Go.bits .or .i64 1 4) := by refine ⟨by decide, by decide, by decide, by decide⟩
theorem alive_cutl (Z : ByteArray) (hz : Z.size = 100) : cutl 3 Z true 64 = [⟨1, 1, 3, Z.extract 0 64⟩, ⟨9, Go.bits .or .i64 0 4, 3, Z.extract 64 Z.size⟩] := by
  unfold cutl
  rw [hz]
  have e := cutf_gt 3 64 99 1 1 Z (by omega)
  have e64 : (64 : Int).toNat = 64 := rfl
  have c2 := cut_size Z 64 Z.size (by omega) (by omega)
  rw [e64, cutf_le 3 64 99 9 0 _ (by omega)] at e
  have e100 : (100 : Nat) = 99 + 1 := rfl
  rw [if_pos rfl, e100, e]; simp only [hz]
theorem alive_t1 (Z : ByteArray) (hz : Z.size = 100) : giv 200 (takev 200 0 (⟨#[]⟩ : ByteArray) false 1 1 3 (Z.extract 0 64)) = (0, (⟨#[]⟩ : ByteArray), false, false, 0, 200, 3, Z.extract 0 64, true) := by
  have c1 := cut_size Z 0 64 (by omega) (by omega)
  rw [take_head 200 1 3 _ _ false p1 (by omega) (by omega) (by omega), if_neg (by omega)]
  rfl
theorem alive_t2 (Z : ByteArray) (hz : Z.size = 100) : giv 200 (takev 200 3 (Z.extract 0 64) true 9 (Go.bits .or .i64 0 4) 3 (Z.extract 64 Z.size)) = (3, Z, true, true, 0, 200, 0, (⟨#[]⟩ : ByteArray), false) := by
  have c2 := cut_size Z 64 Z.size (by omega) (by omega)
  rw [take_cont 200 _ 3 _ _ true p4 (by omega) (by omega) (by omega), cut_join Z 64 (by omega), if_neg (by omega)]
  rfl

theorem right2_run (kd fl id : Int) (b : ByteArray) : bywashref1_FrameRight.f kd fl id b = some (rightB kd fl id b) := right_run kd fl id b
theorem strip2_ev (kd fl id : Int) (b : ByteArray) (hb : b.size ≤ 4611686018427387904) : Ev (fun k => bywashref1_Strip.f k kd fl id b) (strip kd fl b) := by
  have hr := bt_r b 0
  have j2 : ∀ (w : Bool) (body : ByteArray), body.size ≤ b.size → Ev (fun k => bywashref1_Strip.j2 k body w kd fl id b) (unweigh w body b) := by
    intro w body hbody
    refine Ev.step (fun k => bywashref1_Strip.j2.eq_2 ..) ?_
    unfold unweigh
    refine Ev_ite (fun h => ?_) fun h => ?_
    · rw [if_pos h]
      refine Ev_ite (fun h5 => ?_) fun h5 => ?_
      · rw [if_pos h5]; exact Ev_some rfl
      · rw [if_neg h5]
        have he : (body.extract 5 body.size).size ≤ body.size := by simp [ByteArray.size_extract]
        refine Ev_pos (by omega) (Ev_some ?_)
        rw [wid (by omega) (by omega)]
    · rw [if_neg h]
      refine Ev_some ?_
      rw [wid (by omega) (by omega)]
  have j1 : ∀ (body : ByteArray), body.size ≤ b.size → Ev (fun k => bywashref1_Strip.j1 k body kd fl id b) (unweigh (decide (kd = 1) && (Go.bits .and .i64 fl 32 != 0)) body b) := by
    intro body hbody
    refine Ev.step (fun k => bywashref1_Strip.j1.eq_2 ..) ?_
    refine Ev_ite (fun h => ?_) fun h => ?_
    · rw [decide_eq_true h, Bool.true_and]; exact j2 _ _ hbody
    · rw [decide_eq_false h, Bool.false_and]; exact j2 _ _ hbody
  have hs := bare_size fl b
  have j0 : ∀ c : Bool, c = (decide (kd ≠ 0) && decide (kd ≠ 1)) → Ev (fun k => bywashref1_Strip.j0 k b c kd fl id b) (strip kd fl b) := by
    intro c hc
    refine Ev.step (fun k => bywashref1_Strip.j0.eq_2 ..) ?_
    refine Ev_ite (fun h => ?_) fun h => ?_
    · rw [h] at hc
      have hk : ¬ (kd = 0 ∨ kd = 1) := by
        have := hc.symm
        simp at this
        omega
      unfold strip
      rw [if_neg hk]; exact Ev_some rfl
    · have hk : kd = 0 ∨ kd = 1 := by
        have : c = false := by simpa using h
        rw [this] at hc
        by_cases h0 : kd = 0
        · exact .inl h0
        · by_cases h1 : kd = 1
          · exact .inr h1
          · simp [h0, h1] at hc
      unfold strip
      rw [if_pos hk]
      refine Ev_ite (fun h8 => ?_) fun h8 => ?_
      · have eb : bare fl b = (b, true) := by unfold bare; rw [if_pos h8]
        rw [eb]; exact j1 b (Nat.le_refl _)
      · refine Ev_ite (fun hn => ?_) fun hn => ?_
        · have eb : bare fl b = (⟨#[]⟩, false) := by unfold bare; rw [if_neg h8, if_pos ((tl_nil b).1 hn)]
          rw [eb]; exact Ev_some rfl
        · have hn' : ¬ b.size = 0 := fun h => hn ((tl_nil b).2 h)
          rw [wid (x := bt b 0) (by omega) (by omega), wid (x := (b.size : Int) - 1) (by omega) (by omega), wid (x := (b.size : Int) - bt b 0) (by omega) (by omega)]
          refine Ev_pos (by omega) (Ev_ite (fun h3 => ?_) fun h3 => Ev_pos (by omega) (Ev_pos (by omega) ?_))
          · have eb : bare fl b = (⟨#[]⟩, false) := by unfold bare; rw [if_neg h8, if_neg hn', if_pos h3]
            rw [eb]; exact Ev_some rfl
          · have eb : bare fl b = (b.extract 1 ((b.size : Int) - bt b 0).toNat, true) := by unfold bare; rw [if_neg h8, if_neg hn', if_neg h3]
            rw [eb] at hs ⊢
            exact j1 _ hs
  unfold bywashref1_Strip.f
  refine Ev_ite (fun h => ?_) fun h => ?_
  · exact j0 _ (by simp [h])
  · refine j0 _ ?_
    by_cases h1 : kd = 1 <;> simp [h, h1]
theorem check2_ev (kd fl id : Int) (b : ByteArray) (hb : b.size ≤ 4611686018427387904) : Ev (fun k => bywashref1_Check.f k kd fl id b) (chk kd fl id b) := by
  unfold bywashref1_Check.f chk
  refine Ev_bind0 (right2_run kd fl id b) (Ev_ite (fun hr => ?_) fun hr => ?_)
  · rw [if_pos hr]
    have j1 : ∀ x5 x6 : Bool, x5 = !placedB kd id → x6 = !sizedB kd fl (b.size : Int) → Ev (fun k => bywashref1_Check.j1 k x5 x6 kd fl id b)
        (if placedB kd id = true then (if sizedB kd fl (b.size : Int) = true then (if (strip kd fl b).2.2 = 11 then (1, 11) else if (strip kd fl b).2.2 = 5 then (6, 5) else (0, 0)) else (6, 5)) else (1, 11)) := by
      intro x5 x6 h5 h6
      refine Ev.step (fun k => bywashref1_Check.j1.eq_2 ..) ?_
      refine Ev_ite (fun h => ?_) fun h => ?_
      · have : ¬ placedB kd id = true := by rw [h5] at h; simpa using h
        rw [if_neg this]; exact Ev_some rfl
      · have : placedB kd id = true := by rw [h5] at h; simpa using h
        rw [if_pos this]
        refine Ev_ite (fun h => ?_) fun h => ?_
        · have : ¬ sizedB kd fl (b.size : Int) = true := by rw [h6] at h; simpa using h
          rw [if_neg this]; exact Ev_some rfl
        · have : sizedB kd fl (b.size : Int) = true := by rw [h6] at h; simpa using h
          rw [if_pos this]
          refine Ev.bind (strip2_ev kd fl id b hb) ?_
          refine Ev_ite (fun h5 => Ev_some ?_) fun h5 => Ev_ite (fun h11 => Ev_some ?_) fun h11 => Ev_some ?_
          · rw [if_neg (by omega), if_pos h5, h5]
          · rw [if_pos h11, h11]
          · rw [if_neg h11, if_neg h5]
    refine Ev_ite (fun h5 => ?_) fun h5 => ?_
    · have : ¬ placedB kd id = true := by simp [placedB, h5]
      rw [if_neg this]; exact Ev_some rfl
    · have j0 : ∀ c : Bool, c = decide (kd = 0 ∨ kd = 1 ∨ kd = 9) → Ev (fun k => bywashref1_Check.j0 k (b.size : Int) false false kd c kd fl id b)
          (if placedB kd id = true then (if sizedB kd fl (b.size : Int) = true then (if (strip kd fl b).2.2 = 11 then (1, 11) else if (strip kd fl b).2.2 = 5 then (6, 5) else (0, 0)) else (6, 5)) else (1, 11)) := by
        intro c hc
        have pl : ∀ s : Bool, streamedB kd = s → ¬ (kd = 4 ∨ kd = 6 ∨ kd = 7) → placedB kd id = (!s || decide (id ≠ 0)) := by
          intro s hs hn
          unfold placedB
          rw [if_neg h5, if_neg hn, hs]
        have pz : (kd = 4 ∨ kd = 6 ∨ kd = 7) → placedB kd id = decide (id = 0) := by
          intro hy
          unfold placedB
          rw [if_neg h5, if_pos hy]
        have ez : (id == 0) = decide (id = 0) := rfl
        have en : (id != 0) = !decide (id = 0) := rfl
        have ed : decide (id ≠ 0) = !decide (id = 0) := by simp
        refine Ev.step (fun k => bywashref1_Check.j0.eq_2 ..) ?_
        refine Ev_ite (fun h => ?_) fun h => ?_
        · have hk := of_decide_eq_true (hc.symm.trans h)
          refine j1 _ _ ?_ ?_
          · rw [pl true (decide_eq_true (by omega)) (by omega), ed]; simp [ez]
          · unfold sizedB
            rw [if_neg (by omega), if_neg (by omega), if_neg (by omega), if_neg (by omega), if_neg (by omega), if_neg (by omega)]; rfl
        · have hk : ¬ (kd = 0 ∨ kd = 1 ∨ kd = 9) := fun hh => h (hc.trans (decide_eq_true hh))
          refine Ev_ite (fun h2 => ?_) fun h2 => ?_
          · refine j1 _ _ ?_ ?_
            · rw [pl true (decide_eq_true (by omega)) (by omega), ed]; simp [ez]
            · unfold sizedB; rw [if_pos h2]; simp [bne, BEq.beq]
          refine Ev_ite (fun h3 => ?_) fun h3 => ?_
          · refine j1 _ _ ?_ ?_
            · rw [pl true (decide_eq_true (by omega)) (by omega), ed]; simp [ez]
            · unfold sizedB; rw [if_neg h2, if_pos h3]; simp [bne, BEq.beq]
          refine Ev_ite (fun h4 => ?_) fun h4 => ?_
          · have e4 : sizedB kd fl (b.size : Int) = decide ((b.size : Int) % 6 = 0 ∧ (Go.bits .and .i64 fl 1 = 0 ∨ (b.size : Int) = 0)) := by
              unfold sizedB
              rw [if_neg h2, if_neg h3, if_neg (by omega), if_neg (by omega), if_neg (by omega), if_pos h4]
            have hm : Int.tmod (b.size : Int) 6 = (b.size : Int) % 6 := Int.tmod_eq_emod_of_nonneg (by omega)
            rw [hm]
            refine Ev_ite (fun hd => ?_) fun hd => ?_
            · refine Ev_ite (fun ha => ?_) fun ha => ?_
              · refine j1 _ _ ?_ ?_
                · rw [pz (.inl h4)]; simp [en]
                · rw [e4]; simp [hd, ha]
              · refine j1 _ _ ?_ ?_
                · rw [pz (.inl h4)]; simp [en]
                · rw [e4]
                  by_cases h0 : b.size = 0
                  · simp [ha, h0]
                  · have : 0 < b.size := by omega
                    simp [hd, ha, h0, this]
            · refine j1 _ _ ?_ ?_
              · rw [pz (.inl h4)]; simp [en]
              · rw [e4]; simp [hd]
          refine Ev_ite (fun h6 => ?_) fun h6 => ?_
          · refine j1 _ _ ?_ ?_
            · rw [pz (.inr (.inl h6))]; simp [en]
            · unfold sizedB; rw [if_neg h2, if_neg h3, if_neg (by omega), if_pos h6]; simp [bne, BEq.beq]
          refine Ev_ite (fun h7 => ?_) fun h7 => ?_
          · refine j1 _ _ ?_ ?_
            · rw [pz (.inr (.inr h7))]; simp [en]
            · unfold sizedB; rw [if_neg h2, if_neg h3, if_neg (by omega), if_neg h6, if_pos h7]
              by_cases h8 : (b.size : Int) < 8
              · have : ¬ (b.size : Int) ≥ 8 := by omega
                rw [decide_eq_true h8, decide_eq_false this]; rfl
              · have : (b.size : Int) ≥ 8 := by omega
                rw [decide_eq_false h8, decide_eq_true this]; rfl
          refine Ev_ite (fun h8 => ?_) fun h8 => ?_
          · refine j1 _ _ ?_ ?_
            · rw [pl false (decide_eq_false (by omega)) (by omega)]; rfl
            · unfold sizedB; rw [if_neg h2, if_neg h3, if_pos h8]; simp [bne, BEq.beq]
          refine j1 _ _ ?_ ?_
          · rw [pl false (decide_eq_false (by omega)) (by omega)]; rfl
          · unfold sizedB
            rw [if_neg h2, if_neg h3, if_neg h8, if_neg h6, if_neg h7, if_neg h4]; rfl
      refine Ev_ite (fun h0 => ?_) fun h0 => Ev_ite (fun h1 => ?_) fun h1 => ?_
      · exact j0 _ (by simp [h0])
      · exact j0 _ (by simp [h1])
      · refine j0 _ ?_
        by_cases h9 : kd = 9 <;> simp [h0, h1, h9]
  · rw [if_neg hr]; exact Ev_some rfl

def givr (t : Bool × Int × Int × Int × ByteArray × Bool) : Int × ByteArray × Bool × Bool × Int × Int × Int × ByteArray × Bool :=
  if t.2.1 = 0 then (if t.1 = true then (t.2.2.2.1, t.2.2.2.2.1, t.2.2.2.2.2, true, 0, t.2.2.1, 0, (⟨#[]⟩ : ByteArray), t.2.2.2.2.2) else (0, (⟨#[]⟩ : ByteArray), false, false, 0, t.2.2.1, t.2.2.2.1, t.2.2.2.2.1, t.2.2.2.2.2)) else (0, (⟨#[]⟩ : ByteArray), false, false, t.2.1, t.2.2.1, 0, (⟨#[]⟩ : ByteArray), t.2.2.2.2.2)
theorem Take2_of {m id : Int} {b : ByteArray} {en : Bool} {kd fl fid : Int} {body : ByteArray} {t : Bool × Int × Int × Int × ByteArray × Bool} (h : Ev (fun k => bywashref1_Blocks_take.f k m id b en kd fl fid body) t) : Ev (fun k => bywashref1_Blocks_Take.f k m id b en kd fl fid body) (givr t) := by
  unfold bywashref1_Blocks_Take.f
  refine Ev.bind h ?_
  unfold givr
  refine Ev_ite (fun h => ?_) fun h => ?_
  · rw [if_pos h]
    refine Ev_ite (fun h' => ?_) fun h' => ?_
    · rw [if_pos h']; exact Ev_some rfl
    · rw [if_neg h']; exact Ev_some rfl
  · rw [if_neg h]; exact Ev_some rfl
/-- What the reference's open block and this one's have in common. -/
def likes (x y : Int × ByteArray × Bool × Bool × Int × Int × Int × ByteArray × Bool) : Prop :=
  x.1 = y.1 ∧ x.2.1 = y.2.1 ∧ x.2.2.1 = y.2.2.1 ∧ x.2.2.2.1 = y.2.2.2.1 ∧ x.2.2.2.2.1 = y.2.2.2.2.1 ∧ x.2.2.2.2.2.1 = y.2.2.2.2.2.1 ∧ x.2.2.2.2.2.2.1 = y.2.2.2.2.2.2.1 ∧ x.2.2.2.2.2.2.2.1 = y.2.2.2.2.2.2.2.1 ∧ (¬ x.2.2.2.2.2.2.1 = 0 → x.2.2.2.2.2.2.2.2 = y.2.2.2.2.2.2.2.2)
theorem take2 (m id : Int) (b : ByteArray) (en en' : Bool) (kd fl fid : Int) (body : ByteArray) (hb : b.size ≤ 1000000000000) (hbody : body.size ≤ 1000000000000) (hid : id = 0 → b = (⟨#[]⟩ : ByteArray)) (hen : ¬ id = 0 → en = en') :
    ∃ t, Ev (fun k => bywashref1_Blocks_Take.f k m id b en' kd fl fid body) t ∧ likes (giv m (takev m id b en kd fl fid body)) t := by
  have hs := strip_size kd fl body
  by_cases hc : (chk kd fl fid body).2 = 0
  · by_cases h1 : id = 0 ∧ kd = 1
    · obtain ⟨rfl, rfl⟩ := h1
      have e : takev m 0 b en 1 fl fid body = (if ((strip 1 fl body).1.size : Int) > m then (0, (⟨#[]⟩ : ByteArray), false, false, 5) else (fid, (strip 1 fl body).1, (Go.bits .and .i64 fl 1 != 0), (Go.bits .and .i64 fl 4 != 0), 0)) := by
        unfold takev; rw [if_neg (fun h => h hc), if_pos ⟨rfl, rfl⟩]
      have ht : Ev (fun k => bywashref1_Blocks_take.f k m 0 b en' 1 fl fid body) (if ((strip 1 fl body).1.size : Int) > m then (false, 5, m, fid, (strip 1 fl body).1, (Go.bits .and .i64 fl 1 != 0)) else ((Go.bits .and .i64 fl 4 != 0), 0, m, fid, (strip 1 fl body).1, (Go.bits .and .i64 fl 1 != 0))) := by
        unfold bywashref1_Blocks_take.f
        refine Ev.bind (check2_ev 1 fl fid body (by omega)) (Ev_pos hc (Ev_pos rfl ?_))
        refine Ev.step (fun k => bywashref1_Blocks_take.j0.eq_2 ..) (Ev_neg (by simp) (Ev_pos rfl ?_))
        refine Ev.step (fun k => bywashref1_Blocks_take.j1.eq_2 ..) (Ev_neg (by simp) (Ev_pos rfl (Ev.bind (strip2_ev 1 fl fid body (by omega)) ?_)))
        refine Ev_ite (fun h => ?_) fun h => ?_
        · rw [if_pos h]; exact Ev_some rfl
        · rw [if_neg h]; exact Ev_some rfl
      refine ⟨_, Take2_of ht, ?_⟩
      rw [e]
      by_cases hg : ((strip 1 fl body).1.size : Int) > m
      · rw [if_pos hg, if_pos hg]; simp [likes, giv, givr]
      · rw [if_neg hg, if_neg hg]
        cases (Go.bits .and .i64 fl 4 != 0) <;> simp [likes, giv, givr]
    · by_cases h2 : id = 0 ∧ kd ≠ 9
      · have e : takev m id b en kd fl fid body = (0, (⟨#[]⟩ : ByteArray), false, false, 0) := by
          unfold takev; rw [if_neg (fun h => h hc), if_neg h1, if_pos h2]
        obtain ⟨rfl, h9⟩ := h2
        have k1 : ¬ kd = 1 := fun hh => h1 ⟨rfl, hh⟩
        have ht : Ev (fun k => bywashref1_Blocks_take.f k m 0 b en' kd fl fid body) (false, 0, m, 0, b, en') := by
          unfold bywashref1_Blocks_take.f
          refine Ev.bind (check2_ev kd fl fid body (by omega)) (Ev_pos hc (Ev_pos rfl ?_))
          refine Ev.step (fun k => bywashref1_Blocks_take.j0.eq_2 ..) (Ev_neg (by simp) (Ev_pos rfl ?_))
          exact Ev.step (fun k => bywashref1_Blocks_take.j1.eq_2 ..) (Ev_neg (by simp [h9]) (Ev_neg k1 (Ev_neg h9 (Ev_some rfl))))
        refine ⟨_, Take2_of ht, ?_⟩
        rw [e]
        simp [likes, giv, givr, hid rfl]
      · by_cases h3 : id = 0 ∨ kd ≠ 9 ∨ fid ≠ id
        · have e : takev m id b en kd fl fid body = (0, (⟨#[]⟩ : ByteArray), false, false, 11) := by
            unfold takev; rw [if_neg (fun h => h hc), if_neg h1, if_neg h2, if_pos h3]
          have j1 : Ev (fun k => bywashref1_Blocks_take.j1 k true m id b en' kd fl fid body) (false, 11, m, id, b, en') :=
            Ev.step (fun k => bywashref1_Blocks_take.j1.eq_2 ..) (Ev_pos rfl (Ev_some rfl))
          have j0 : Ev (fun k => bywashref1_Blocks_take.j0 k true m id b en' kd fl fid body) (false, 11, m, id, b, en') :=
            Ev.step (fun k => bywashref1_Blocks_take.j0.eq_2 ..) (Ev_pos rfl j1)
          have ht : Ev (fun k => bywashref1_Blocks_take.f k m id b en' kd fl fid body) (false, 11, m, id, b, en') := by
            unfold bywashref1_Blocks_take.f
            refine Ev.bind (check2_ev kd fl fid body (by omega)) (Ev_pos hc (Ev_ite (fun h0 => ?_) fun h0 => Ev_ite (fun h9 => ?_) fun h9 => j0))
            · have h9 : kd = 9 := by
                by_cases hh : kd = 9
                · exact hh
                · exact absurd ⟨h0, hh⟩ h2
              refine Ev.step (fun k => bywashref1_Blocks_take.j0.eq_2 ..) (Ev_neg (by simp) (Ev_pos h0 ?_))
              rw [show (kd == 9) = true by simp [h9]]
              exact j1
            · have hf : fid ≠ id := (h3.resolve_left h0).resolve_left (fun hh => hh h9)
              rw [show (fid != id) = true by simp [hf]]
              exact j0
          refine ⟨_, Take2_of ht, ?_⟩
          rw [e]
          simp [likes, giv, givr]
        · have h0 : ¬ id = 0 := fun hh => h3 (.inl hh)
          have h9 : kd = 9 := by
            by_cases hh : kd = 9
            · exact hh
            · exact absurd (.inr (.inl hh)) h3
          have hf : fid = id := by
            by_cases hh : fid = id
            · exact hh
            · exact absurd (.inr (.inr hh)) h3
          subst h9
          have hst : strip 9 fl body = (body, 0, 0) := by unfold strip; rw [if_neg (by omega)]
          have e : takev m id b en 9 fl fid body = (if ((b ++ body).size : Int) > m then (0, (⟨#[]⟩ : ByteArray), false, false, 5) else (id, b ++ body, en, (Go.bits .and .i64 fl 4 != 0), 0)) := by
            unfold takev; rw [if_neg (fun h => h hc), if_neg h1, if_neg h2, if_neg h3, hst]
          have ht : Ev (fun k => bywashref1_Blocks_take.f k m id b en' 9 fl fid body) (if ((b ++ body).size : Int) > m then (false, 5, m, id, b ++ body, en') else ((Go.bits .and .i64 fl 4 != 0), 0, m, id, b ++ body, en')) := by
            unfold bywashref1_Blocks_take.f
            refine Ev.bind (check2_ev 9 fl fid body (by omega)) (Ev_pos hc (Ev_neg h0 (Ev_pos rfl ?_)))
            rw [show (fid != id) = false by simp [hf]]
            refine Ev.step (fun k => bywashref1_Blocks_take.j0.eq_2 ..) (Ev_neg (by simp) (Ev_neg h0 ?_))
            refine Ev.step (fun k => bywashref1_Blocks_take.j1.eq_2 ..) (Ev_neg (by simp) (Ev_neg (by omega) (Ev_pos rfl (Ev_pos (by omega) ?_))))
            refine Ev_ite (fun h => ?_) fun h => ?_
            · rw [if_pos h]; exact Ev_some rfl
            · rw [if_neg h]; exact Ev_some rfl
          refine ⟨_, Take2_of ht, ?_⟩
          rw [e, ← hen h0]
          by_cases hg : ((b ++ body).size : Int) > m
          · rw [if_pos hg, if_pos hg]; simp [likes, giv, givr]
          · rw [if_neg hg, if_neg hg]
            cases (Go.bits .and .i64 fl 4 != 0) <;> simp [likes, giv, givr]
  · have e : takev m id b en kd fl fid body = (0, (⟨#[]⟩ : ByteArray), false, false, 1) := by
      unfold takev; rw [if_pos hc]
    have ht : Ev (fun k => bywashref1_Blocks_take.f k m id b en' kd fl fid body) (false, 1, m, id, b, en') := by
      unfold bywashref1_Blocks_take.f
      exact Ev.bind (check2_ev kd fl fid body (by omega)) (Ev_neg hc (Ev_some rfl))
    refine ⟨_, Take2_of ht, ?_⟩
    rw [e]
    simp [likes, giv, givr]
theorem giv_next (m id : Int) (b : ByteArray) (en : Bool) (kd fl fid : Int) (body : ByteArray) (hid : id = 0 → b = (⟨#[]⟩ : ByteArray)) : (giv m (takev m id b en kd fl fid body)).2.2.2.2.2.1 = m ∧ (giv m (takev m id b en kd fl fid body)).2.2.2.2.2.2.2.1.size ≤ b.size + body.size ∧ ((giv m (takev m id b en kd fl fid body)).2.2.2.2.2.2.1 = 0 → (giv m (takev m id b en kd fl fid body)).2.2.2.2.2.2.2.1 = (⟨#[]⟩ : ByteArray)) := by
  have hs := strip_size kd fl body
  have hz : (⟨#[]⟩ : ByteArray).size = 0 := rfl
  by_cases hc : (chk kd fl fid body).2 = 0
  · have hfid : kd = 1 → ¬ fid = 0 := by
      intro hk hf
      subst hk; subst hf
      have : chk 1 fl 0 body = (1, 11) ∨ chk 1 fl 0 body = (1, 1) := by
        unfold chk
        have hp : placedB 1 0 = false := by simp [placedB, streamedB]
        rw [hp]
        by_cases hr : rightB 1 fl 0 body = true
        · left; simp [hr]
        · right; simp [hr]
      rcases this with h | h <;> rw [h] at hc <;> simp at hc
    unfold takev
    rw [if_neg (fun h => h hc)]
    by_cases h1 : id = 0 ∧ kd = 1
    · rw [if_pos h1]
      by_cases hg : ((strip kd fl body).1.size : Int) > m
      · rw [if_pos hg]; simp [giv, hz]
      · rw [if_neg hg]
        cases (Go.bits .and .i64 fl 4 != 0)
        · refine ⟨rfl, ?_, fun h => absurd h (hfid h1.2)⟩
          show (strip kd fl body).1.size ≤ _
          omega
        · exact ⟨rfl, Nat.zero_le _, fun _ => rfl⟩
    · rw [if_neg h1]
      by_cases h2 : id = 0 ∧ kd ≠ 9
      · rw [if_pos h2]; simp [giv, hz]
      · rw [if_neg h2]
        by_cases h3 : id = 0 ∨ kd ≠ 9 ∨ fid ≠ id
        · rw [if_pos h3]; simp [giv, hz]
        · rw [if_neg h3]
          by_cases hg : ((b ++ (strip kd fl body).1).size : Int) > m
          · rw [if_pos hg]; simp [giv, hz]
          · rw [if_neg hg]
            cases (Go.bits .and .i64 fl 4 != 0)
            · refine ⟨rfl, ?_, fun h => absurd (.inl h) h3⟩
              show (b ++ (strip kd fl body).1).size ≤ _
              rw [app_size]; omega
            · exact ⟨rfl, Nat.zero_le _, fun _ => rfl⟩
  · unfold takev
    rw [if_pos hc]; simp [giv, hz]

end Go.Proofs.Ytdonanibfifodaa.Pure
