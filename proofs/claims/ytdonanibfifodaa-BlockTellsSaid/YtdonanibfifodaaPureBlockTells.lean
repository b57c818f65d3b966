/- Every block cut into frames; put together again it is itself; lists kept, marked, grown. Conditions: those of the statement itself. -/
import Derived.Test.YtdonanibfifodaaPBlockTellsx0
import Derived.Test.YtdonanibfifodaaPBlockTellsx1
import Derived.Test.YtdonanibfifodaaPBlockTellsx2
import Derived.Test.YtdonanibfifodaaPBlockTellsx3
import Derived.Test.YtdonanibfifodaaPBlockTellsx4
import Derived.Test.YtdonanibfifodaaPBlockTellsx5
import Derived.Test.YtdonanibfifodaaPBlockTellsx6
import Derived.Test.YtdonanibfifodaaPBlockTellsx7
import Derived.Test.YtdonanibfifodaaPBlockTellsx9
import Derived.Test.YtdonanibfifodaaPBlockTellsx12
import Derived.Test.YtdonanibfifodaaAid
namespace Go.Proofs.Ytdonanibfifodaa.Pure
open Go.RowKit Go.Proofs.YtdonanibfifodaaW.PrintWords Go.Proofs.YtdonanibfifodaaW.PrintLast Go.Proofs.YtdonanibfifodaaW.PrintMore Go.Proofs.Ytdonanibfifodaa.Aid Go.Proofs.Ytdonanibfifodaa.PBlockTells
set_option linter.unusedVariables false
set_option linter.unusedSimpArgs false

theorem tl_eq (a : ByteArray) : a.toList = a.data.toList := ByteArray.toList_eq a
theorem ba_ext {a b : ByteArray} (h : a.data = b.data) : a = b := by cases a; cases b; cases h; rfl
theorem ba_of_list {a b : ByteArray} (h : a.toList = b.toList) : a = b := by
  rw [tl_eq, tl_eq] at h
  exact ba_ext (Array.toList_inj.1 h)
theorem tl_nil (b : ByteArray) : b.toList = ([] : List UInt8) ↔ b.size = 0 := by
  rw [tl_eq]
  constructor
  · intro h
    have := congrArg List.length h
    rw [Array.length_toList] at this
    exact this
  · intro h
    have : b.data.toList.length = 0 := by rw [Array.length_toList]; exact h
    exact List.length_eq_zero_iff.1 this
theorem nil_of_size {c : ByteArray} (h : c.size = 0) : c = ⟨#[]⟩ := ba_of_list (by rw [(tl_nil c).2 h, (tl_nil _).2 rfl])
theorem bt_r (s : ByteArray) (i : Int) : 0 ≤ bt s i ∧ bt s i ≤ 255 := bt_range s i
def nth (s : ByteArray) (n : Nat) : Int := ((s.data[n]?).map fun x => (x.toNat : Int)).getD 0
theorem bt_nth (s : ByteArray) (i : Int) : bt s i = nth s i.toNat := by
  unfold bt nth
  by_cases h : i.toNat < s.size
  · rw [dif_pos h]
    have h' : i.toNat < s.data.size := h
    rw [Array.getElem?_eq_getElem h']
    rfl
  · rw [dif_neg h]
    have h' : s.data.size ≤ i.toNat := Nat.le_of_not_lt h
    rw [Array.getElem?_eq_none h']
    rfl
theorem nth_app (a b : ByteArray) (n : Nat) : nth (a ++ b) n = if n < a.size then nth a n else nth b (n - a.size) := by
  unfold nth
  rw [ByteArray.data_append]
  have hs : a.size = a.data.size := rfl
  by_cases h : n < a.size
  · rw [if_pos h, Array.getElem?_append_left (by omega)]
  · rw [if_neg h, Array.getElem?_append_right (by omega), ← hs]
theorem nth_cut (b : ByteArray) (lo hi n : Nat) (h : lo + n < hi) (hh : hi ≤ b.size) : nth (b.extract lo hi) n = nth b (lo + n) := by
  unfold nth
  rw [ByteArray.data_extract, Array.getElem?_extract, if_pos]
  have hs : b.size = b.data.size := rfl
  rw [← hs]; omega
theorem nth_nums (l : List Int) (n : Nat) (h : n < l.length) (h0 : 0 ≤ l[n]) : nth (strOfNums l) n = l[n] % 256 := by
  unfold nth strOfNums
  simp only [List.getElem?_toArray, List.getElem?_map, List.getElem?_eq_getElem h, Option.map_some, Option.getD_some, UInt8.toNat_ofNat']
  omega
theorem nth_ext {a b : ByteArray} (hs : a.size = b.size) (h : ∀ n, n < a.size → nth a n = nth b n) : a = b := by
  apply ba_ext
  apply Array.ext hs
  intro i h1 h2
  have := h i h1
  unfold nth at this
  rw [Array.getElem?_eq_getElem h1, Array.getElem?_eq_getElem h2] at this
  simp only [Option.map_some, Option.getD_some] at this
  exact UInt8.toNat_inj.1 (by omega)
theorem app_size (a b : ByteArray) : (a ++ b).size = a.size + b.size := ByteArray.size_append
theorem app_assoc (a b c : ByteArray) : a ++ b ++ c = a ++ (b ++ c) := by
  apply ba_ext
  simp only [ByteArray.data_append, Array.append_assoc]
theorem app_nil (a : ByteArray) (b : ByteArray) (h : b.size = 0) : a ++ b = a := by
  apply ba_ext
  rw [ByteArray.data_append]
  have : b.data = #[] := Array.eq_empty_of_size_eq_zero h
  rw [this, Array.append_empty]
theorem nil_app (b : ByteArray) : (⟨#[]⟩ : ByteArray) ++ b = b := by
  apply ba_ext
  rw [ByteArray.data_append]
  exact Array.empty_append
theorem cut_size (b : ByteArray) (lo hi : Nat) (h : lo ≤ hi) (hh : hi ≤ b.size) : (b.extract lo hi).size = hi - lo := by rw [ByteArray.size_extract]; omega
theorem cut_all (b : ByteArray) : b.extract 0 b.size = b := by
  apply ba_ext
  rw [ByteArray.data_extract]
  exact Array.extract_size
theorem cut_join (b : ByteArray) (m : Nat) (h : m ≤ b.size) : b.extract 0 m ++ b.extract m b.size = b := by
  apply ba_ext
  have hs : b.size = b.data.size := rfl
  rw [ByteArray.data_append, ByteArray.data_extract, ByteArray.data_extract, Array.extract_append_extract]
  have e1 : min 0 m = 0 := by omega
  have e2 : max m b.size = b.data.size := by rw [← hs]; omega
  rw [e1, e2, Array.extract_size]
theorem cut_left (a b : ByteArray) : (a ++ b).extract 0 a.size = a := by
  apply nth_ext
  · rw [cut_size _ _ _ (Nat.zero_le _) (by rw [app_size]; omega)]; omega
  · intro n hn
    rw [cut_size _ _ _ (Nat.zero_le _) (by rw [app_size]; omega)] at hn
    rw [nth_cut _ _ _ _ (by omega) (by rw [app_size]; omega), nth_app, if_pos (by omega), Nat.zero_add]
theorem cut_right (a b : ByteArray) : (a ++ b).extract a.size (a ++ b).size = b := by
  have hs := app_size a b
  apply nth_ext
  · rw [cut_size _ _ _ (by omega) (Nat.le_refl _)]; omega
  · intro n hn
    rw [cut_size _ _ _ (by omega) (Nat.le_refl _)] at hn
    rw [nth_cut _ _ _ _ (by omega) (Nat.le_refl _), nth_app, if_neg (by omega), Nat.add_sub_cancel_left]
theorem mask63 (i : Nat) (hi : i ≤ 62) (x : Int) (h0 : 0 ≤ x) (h1 : x < 2 ^ 62) : Go.bits .and .i64 x (2 ^ i - 1) = x % 2 ^ i :=
  bits_mask .i64 62 (by decide) (fun n h0 h1 => by rw [IntKind.wrap_i64]; omega) i hi x h0 h1
theorem or_byte (x y : Int) (hx : 0 ≤ x) (hx' : x ≤ 1099511627776) (hy : 0 ≤ y) (hy' : y ≤ 255) : Go.bits .or .i64 (wrap64 (x * 256)) (wrap64 y) = x * 256 + y := by
  rw [wid (by omega) (by omega), wid (by omega) (by omega)]
  exact bits_join .i64 62 (by decide) (fun n h0 h1 => by rw [IntKind.wrap_i64]; omega) 8 (x * 256) y (by omega) (by omega) (by omega) hy (by omega) (by omega)

def bare (fl : Int) (b : ByteArray) : ByteArray × Bool :=
  if Go.bits .and .i64 fl 8 = 0 then (b, true) else if b.size = 0 then (⟨#[]⟩, false) else if bt b 0 > (b.size : Int) - 1 then (⟨#[]⟩, false) else (b.extract 1 ((b.size : Int) - bt b 0).toNat, true)
theorem bare_run (kd fl id : Int) (b : ByteArray) (hb : b.size ≤ 4611686018427387904) : frame_bare.f kd fl id b = some (bare fl b) := by
  have hr := bt_r b 0
  unfold frame_bare.f bare
  by_cases h1 : Go.bits .and .i64 fl 8 = 0
  · rw [if_pos h1, if_pos h1]
  · rw [if_neg h1, if_neg h1]
    by_cases h2 : b.size = 0
    · rw [if_pos ((tl_nil b).2 h2), if_pos h2]
    · rw [if_neg (fun h => h2 ((tl_nil b).1 h)), if_neg h2, if_pos (by omega), wid (x := bt b 0) (by omega) (by omega), wid (x := (b.size : Int) - 1) (by omega) (by omega), wid (x := (b.size : Int) - bt b 0) (by omega) (by omega)]
      by_cases h3 : bt b 0 > (b.size : Int) - 1
      · rw [if_pos h3, if_pos h3]
      · rw [if_neg h3, if_neg h3, if_pos (by omega), if_pos (by omega)]
def unweigh (w : Bool) (body b : ByteArray) : ByteArray × Int × Int :=
  if w = true then (if (body.size : Int) < 5 then (⟨#[]⟩, 0, 5) else (body.extract 5 body.size, (b.size : Int) - ((body.extract 5 body.size).size : Int), 0)) else (body, (b.size : Int) - (body.size : Int), 0)
def strip (kd fl : Int) (b : ByteArray) : ByteArray × Int × Int :=
  if kd = 0 ∨ kd = 1 then (if (bare fl b).2 = true then unweigh (decide (kd = 1) && (Go.bits .and .i64 fl 32 != 0)) (bare fl b).1 b else (⟨#[]⟩, 0, 11)) else (b, 0, 0)
theorem bare_size (fl : Int) (b : ByteArray) : (bare fl b).1.size ≤ b.size := by
  unfold bare
  split
  · exact Nat.le_refl _
  · split
    · exact Nat.zero_le _
    · split
      · exact Nat.zero_le _
      · simp [ByteArray.size_extract]; omega
theorem strip_ev (kd fl id : Int) (b : ByteArray) (hb : b.size ≤ 4611686018427387904) : Ev (fun k => frame_Strip.f k kd fl id b) (strip kd fl b) := by
  have hs := bare_size fl b
  have j1 : ∀ w c : Bool, c = (w && decide (((bare fl b).1.size : Int) < 5)) → Ev (fun k => frame_Strip.j1 k w (bare fl b).1 c kd fl id b) (unweigh w (bare fl b).1 b) := by
    intro w c hc
    refine Ev.step (fun k => frame_Strip.j1.eq_2 ..) ?_
    cases w with
    | true =>
      simp only [Bool.true_and] at hc
      by_cases h5 : ((bare fl b).1.size : Int) < 5
      · exact Ev_pos (by rw [hc]; exact decide_eq_true h5) (Ev_some (by simp [unweigh, h5]))
      · refine Ev_neg (by rw [hc]; simpa using h5) (Ev_pos rfl (Ev_pos (by omega) (Ev_some ?_)))
        have he : ((bare fl b).1.extract 5 (bare fl b).1.size).size ≤ (bare fl b).1.size := by simp [ByteArray.size_extract]
        rw [wid (by omega) (by omega)]
        simp [unweigh, h5]
    | false =>
      simp only [Bool.false_and] at hc
      refine Ev_neg (by rw [hc]; simp) (Ev_neg (by simp) (Ev_some ?_))
      rw [wid (by omega) (by omega)]
      simp [unweigh]
  have j0 : ∀ w : Bool, (kd = 0 ∨ kd = 1) → w = (decide (kd = 1) && (Go.bits .and .i64 fl 32 != 0)) → Ev (fun k => frame_Strip.j0 k w kd fl id b) (strip kd fl b) := by
    intro w hk hw
    refine Ev.step (fun k => frame_Strip.j0.eq_2 ..) (Ev_bind0 (bare_run kd fl id b hb) ?_)
    unfold strip
    rw [if_pos hk, ← hw]
    by_cases h2 : (bare fl b).2 = true
    · rw [if_pos h2]
      refine Ev_pos h2 ?_
      cases w with
      | true => exact Ev_pos rfl (j1 true _ (by simp))
      | false => exact Ev_neg (by simp) (j1 false _ (by simp))
    · rw [if_neg h2]
      exact Ev_neg h2 (Ev_some rfl)
  unfold frame_Strip.f
  by_cases h1 : kd = 1
  · exact Ev_pos h1 (j0 _ (.inr h1) (by simp [h1]))
  · refine Ev_neg h1 ?_
    by_cases h0 : kd = 0
    · exact Ev_pos h0 (j0 _ (.inl h0) (by simp [h1]))
    · refine Ev_neg h0 (Ev_some ?_)
      unfold strip
      rw [if_neg (by omega)]
theorem strip_err (kd fl : Int) (b : ByteArray) : (strip kd fl b).2.2 = 0 ∨ (strip kd fl b).2.2 = 5 ∨ (strip kd fl b).2.2 = 11 := by
  unfold strip
  split
  · split
    · unfold unweigh
      split
      · split <;> simp
      · simp
    · simp
  · simp
def rightB (kd fl id : Int) (b : ByteArray) : Bool := decide (0 ≤ kd ∧ kd ≤ 255 ∧ 0 ≤ fl ∧ fl ≤ 255 ∧ 0 ≤ id ∧ id ≤ 2147483647 ∧ b.size ≤ 16777215)
theorem right_run (kd fl id : Int) (b : ByteArray) : frame_Right.f kd fl id b = some (rightB kd fl id b) := by
  unfold frame_Right.f rightB
  by_cases h1 : kd ≥ 0
  · by_cases h2 : kd ≤ 255
    · by_cases h3 : fl ≥ 0
      · by_cases h4 : fl ≤ 255
        · by_cases h5 : id ≥ 0
          · by_cases h6 : id ≤ 2147483647
            · rw [if_pos h1, if_pos h2, if_pos h3, if_pos h4, if_pos h5, if_pos h6]
              congr 1
              exact decide_eq_decide.2 (by omega)
            · rw [if_pos h1, if_pos h2, if_pos h3, if_pos h4, if_pos h5, if_neg h6, decide_eq_false (by omega)]
          · rw [if_pos h1, if_pos h2, if_pos h3, if_pos h4, if_neg h5, decide_eq_false (by omega)]
        · rw [if_pos h1, if_pos h2, if_pos h3, if_neg h4, decide_eq_false (by omega)]
      · rw [if_pos h1, if_pos h2, if_neg h3, decide_eq_false (by omega)]
    · rw [if_pos h1, if_neg h2, decide_eq_false (by omega)]
  · rw [if_neg h1, decide_eq_false (by omega)]
def streamedB (kd : Int) : Bool := decide (kd = 0 ∨ kd = 1 ∨ kd = 2 ∨ kd = 3 ∨ kd = 9)
theorem streamed_ev (kd : Int) : Ev (fun k => rule_Streamed.f k kd) (streamedB kd) := by
  unfold rule_Streamed.f
  refine Ev_ite (fun h => Ev_some (by simp [streamedB, h])) fun h0 => ?_
  have j0 : ∀ c : Bool, c = decide (kd = 1 ∨ kd = 2) → Ev (fun k => rule_Streamed.j0 k kd c) (streamedB kd) := by
    intro c hc
    refine Ev.step (fun k => rule_Streamed.j0.eq_2 ..) ?_
    refine Ev_ite (fun h => Ev_some ?_) fun h1 => Ev_ite (fun h => Ev_some (by simp [streamedB, h])) fun h3 => Ev_ite (fun h => Ev_some (by simp [streamedB, h])) fun h9 => Ev_some ?_
    · have := of_decide_eq_true (hc.symm.trans h)
      unfold streamedB
      rw [decide_eq_true (by omega)]
    · have : ¬ (kd = 1 ∨ kd = 2) := fun hh => h1 (hc.trans (decide_eq_true hh))
      unfold streamedB
      rw [decide_eq_false (by omega)]
  by_cases h1 : kd = 1
  · exact Ev_pos h1 (j0 _ (by simp [h1]))
  · exact Ev_neg h1 (j0 _ (by
      by_cases h2 : kd = 2 <;> simp [h1, h2]))
def placedB (kd id : Int) : Bool := if kd = 5 then false else if kd = 4 ∨ kd = 6 ∨ kd = 7 then decide (id = 0) else !streamedB kd || decide (id ≠ 0)
theorem placed_ev (kd fl id : Int) (b : ByteArray) : Ev (fun k => rule_placed.f k kd fl id b) (placedB kd id) := by
  unfold rule_placed.f placedB
  by_cases h5 : kd = 5
  · rw [if_pos h5]; exact Ev_pos h5 (Ev_some rfl)
  · rw [if_neg h5]
    refine Ev_neg h5 ?_
    by_cases h4 : kd = 4
    · rw [if_pos (.inl h4)]
      exact Ev_pos h4 (Ev_some rfl)
    · refine Ev_neg h4 ?_
      by_cases h6 : kd = 6
      · rw [if_pos (.inr (.inl h6))]
        exact Ev_pos h6 (Ev_some rfl)
      · refine Ev_neg h6 ?_
        by_cases h7 : kd = 7
        · rw [if_pos (.inr (.inr h7))]
          exact Ev_pos h7 (Ev_some rfl)
        · rw [if_neg (by omega)]
          refine Ev_neg h7 (Ev.bind (streamed_ev kd) ?_)
          refine Ev_ite (fun h => Ev_some ?_) fun h => Ev_some ?_
          · rw [h]
            by_cases hi : id = 0 <;> simp [hi]
          · simp at h
            simp [h]
def sizedB (kd fl : Int) (n : Int) : Bool :=
  if kd = 2 then decide (n = 5) else if kd = 3 then decide (n = 4) else if kd = 8 then decide (n = 4) else if kd = 6 then decide (n = 8) else if kd = 7 then decide (n ≥ 8) else
  if kd = 4 then decide (n % 6 = 0 ∧ (Go.bits .and .i64 fl 1 = 0 ∨ n = 0)) else true
theorem sized_run (kd fl id : Int) (b : ByteArray) : rule_sized.f kd fl id b = some (sizedB kd fl (b.size : Int)) := by
  unfold rule_sized.f sizedB
  by_cases h2 : kd = 2
  · rw [if_pos h2, if_pos h2]; rfl
  · rw [if_neg h2, if_neg h2]
    by_cases h3 : kd = 3
    · rw [if_pos h3, if_pos h3]; rfl
    · rw [if_neg h3, if_neg h3]
      by_cases h8 : kd = 8
      · rw [if_pos h8, if_pos h8]; rfl
      · rw [if_neg h8, if_neg h8]
        by_cases h6 : kd = 6
        · rw [if_pos h6, if_pos h6]; rfl
        · rw [if_neg h6, if_neg h6]
          by_cases h7 : kd = 7
          · rw [if_pos h7, if_pos h7]
          · rw [if_neg h7, if_neg h7]
            by_cases h4 : kd = 4
            · rw [if_pos h4, if_pos h4]
              by_cases hm : (b.size : Int) % 6 = 0
              · rw [if_pos hm]
                by_cases ha : Go.bits .and .i64 fl 1 = 0
                · rw [if_pos ha]; simp [hm, ha]
                · rw [if_neg ha]
                  by_cases h0 : b.size = 0 <;> simp [hm, ha, h0]
              · rw [if_neg hm]; simp [hm]
            · rw [if_neg h4, if_neg h4]
/-- What rule says of a frame. -/
def chk (kd fl id : Int) (b : ByteArray) : Int × Int :=
  if rightB kd fl id b = true then (if placedB kd id = true then (if sizedB kd fl (b.size : Int) = true then (if (strip kd fl b).2.2 = 11 then (1, 11) else if (strip kd fl b).2.2 = 5 then (6, 5) else (0, 0)) else (6, 5)) else (1, 11)) else (1, 1)
theorem check_ev (kd fl id : Int) (b : ByteArray) (hb : b.size ≤ 4611686018427387904) : Ev (fun k => rule_Check.f k kd fl id b) (chk kd fl id b) := by
  unfold rule_Check.f chk
  refine Ev_bind0 (right_run kd fl id b) ?_
  by_cases h1 : rightB kd fl id b = true
  · rw [if_pos h1]
    refine Ev_pos h1 (Ev.bind (placed_ev kd fl id b) ?_)
    by_cases h2 : placedB kd id = true
    · rw [if_pos h2]
      refine Ev_pos h2 (Ev_bind0 (sized_run kd fl id b) ?_)
      by_cases h3 : sizedB kd fl (b.size : Int) = true
      · rw [if_pos h3]
        refine Ev_pos h3 (Ev.bind (strip_ev kd fl id b hb) ?_)
        refine Ev_ite (fun h4 => Ev_some ?_) (fun h4 => Ev_ite (fun h5 => Ev_some ?_) fun h5 => Ev_some ?_)
        · rw [if_pos h4, h4]
        · rw [if_neg h4, if_pos h5, h5]
        · rw [if_neg h4, if_neg h5]
      · rw [if_neg h3]; exact Ev_neg h3 (Ev_some rfl)
    · rw [if_neg h2]; exact Ev_neg h2 (Ev_some rfl)
  · rw [if_neg h1]; exact Ev_neg h1 (Ev_some rfl)

theorem new_run (m : Int) (h : 1 ≤ m) : block_New.f m = some (m, 0, (⟨#[]⟩ : ByteArray), false) := by
  unfold block_New.f; rw [if_neg (by omega)]
/-- A frame behind what is open: the block, whether it is whole, the error. -/
def takev (m id : Int) (b : ByteArray) (en : Bool) (kd fl fid : Int) (body : ByteArray) : Int × ByteArray × Bool × Bool × Int :=
  if ¬ (chk kd fl fid body).2 = 0 then (0, (⟨#[]⟩ : ByteArray), false, false, 1)
  else if id = 0 ∧ kd = 1 then (if ((strip kd fl body).1.size : Int) > m then (0, (⟨#[]⟩ : ByteArray), false, false, 5) else (fid, (strip kd fl body).1, (Go.bits .and .i64 fl 1 != 0), (Go.bits .and .i64 fl 4 != 0), 0))
  else if id = 0 ∧ kd ≠ 9 then (0, (⟨#[]⟩ : ByteArray), false, false, 0)
  else if id = 0 ∨ kd ≠ 9 ∨ fid ≠ id then (0, (⟨#[]⟩ : ByteArray), false, false, 11)
  else if ((b ++ (strip kd fl body).1).size : Int) > m then (0, (⟨#[]⟩ : ByteArray), false, false, 5) else (id, b ++ (strip kd fl body).1, en, (Go.bits .and .i64 fl 4 != 0), 0)
theorem unweigh_size (w : Bool) (c b : ByteArray) : (unweigh w c b).1.size ≤ c.size := by
  unfold unweigh
  split
  · split
    · exact Nat.zero_le _
    · simp only [ByteArray.size_extract]; omega
  · exact Nat.le_refl _
theorem strip_size (kd fl : Int) (b : ByteArray) : (strip kd fl b).1.size ≤ b.size := by
  unfold strip
  split
  · split
    · exact Nat.le_trans (unweigh_size _ _ _) (bare_size fl b)
    · exact Nat.zero_le _
  · exact Nat.le_refl _
theorem take_ev (m id : Int) (b : ByteArray) (en : Bool) (kd fl fid : Int) (body : ByteArray) (hb : b.size ≤ 1000000000000) (hbody : body.size ≤ 1000000000000) :
    Ev (fun k => block_Blocks_take.f k m id b en kd fl fid body) ((takev m id b en kd fl fid body).1, (takev m id b en kd fl fid body).2.1, (takev m id b en kd fl fid body).2.2.1, (takev m id b en kd fl fid body).2.2.2.1, (takev m id b en kd fl fid body).2.2.2.2, m, id, b, en) := by
  have hs := strip_size kd fl body
  unfold block_Blocks_take.f
  refine Ev.bind (check_ev kd fl fid body (by omega)) (Ev.bind (strip_ev kd fl fid body (by omega)) ?_)
  refine Ev_ite (fun h0 => ?_) fun h0 => ?_
  · have j2 : ∀ t : Bool, ¬ (id = 0 ∧ kd = 1) → ¬ (id = 0 ∧ kd ≠ 9) → t = decide (id = 0 ∨ kd ≠ 9 ∨ fid ≠ id) →
        Ev (fun k => block_Blocks_take.j2 k (strip kd fl body).1 t m id b en kd fl fid body id b en) ((takev m id b en kd fl fid body).1, (takev m id b en kd fl fid body).2.1, (takev m id b en kd fl fid body).2.2.1, (takev m id b en kd fl fid body).2.2.2.1, (takev m id b en kd fl fid body).2.2.2.2, m, id, b, en) := by
      intro t n1 n2 ht
      unfold takev
      rw [if_neg (show ¬ ¬ (chk kd fl fid body).2 = 0 from fun h => h h0), if_neg n1, if_neg n2]
      refine Ev.step (fun k => block_Blocks_take.j2.eq_2 ..) ?_
      refine Ev_ite (fun h => ?_) fun h => ?_
      · rw [if_pos (of_decide_eq_true (ht.symm.trans h))]; exact Ev_some rfl
      · rw [if_neg (fun hh => h (ht.trans (decide_eq_true hh)))]
        refine Ev_pos (by omega) (Ev_ite (fun h5 => ?_) fun h5 => ?_)
        · rw [if_pos h5]; exact Ev_some rfl
        · rw [if_neg h5]; exact Ev_some rfl
    have j1 : ∀ t : Bool, ¬ (id = 0 ∧ kd = 1) → t = decide (id = 0 ∧ kd ≠ 9) →
        Ev (fun k => block_Blocks_take.j1 k (strip kd fl body).1 t m id b en kd fl fid body id b en) ((takev m id b en kd fl fid body).1, (takev m id b en kd fl fid body).2.1, (takev m id b en kd fl fid body).2.2.1, (takev m id b en kd fl fid body).2.2.2.1, (takev m id b en kd fl fid body).2.2.2.2, m, id, b, en) := by
      intro t n1 ht
      refine Ev.step (fun k => block_Blocks_take.j1.eq_2 ..) ?_
      refine Ev_ite (fun h => ?_) fun h => ?_
      · have n2 := of_decide_eq_true (ht.symm.trans h)
        unfold takev
        rw [if_neg (show ¬ ¬ (chk kd fl fid body).2 = 0 from fun h => h h0), if_neg n1, if_pos n2]; exact Ev_some rfl
      · have n2 : ¬ (id = 0 ∧ kd ≠ 9) := fun hh => h (ht.trans (decide_eq_true hh))
        refine Ev_ite (fun hi => ?_) fun hi => ?_
        · exact j2 true n1 n2 (decide_eq_true (.inl hi)).symm
        · refine Ev_ite (fun hk => ?_) fun hk => ?_
          · refine j2 _ n1 n2 ?_
            by_cases hf : fid = id
            · rw [decide_eq_false (by omega)]; simp [hf]
            · rw [decide_eq_true (.inr (.inr hf))]; simp [hf]
          · exact j2 true n1 n2 (decide_eq_true (.inr (.inl hk))).symm
    have j0 : ∀ t : Bool, t = decide (id = 0 ∧ kd = 1) →
        Ev (fun k => block_Blocks_take.j0 k (strip kd fl body).1 t m id b en kd fl fid body id b en) ((takev m id b en kd fl fid body).1, (takev m id b en kd fl fid body).2.1, (takev m id b en kd fl fid body).2.2.1, (takev m id b en kd fl fid body).2.2.2.1, (takev m id b en kd fl fid body).2.2.2.2, m, id, b, en) := by
      intro t ht
      refine Ev.step (fun k => block_Blocks_take.j0.eq_2 ..) ?_
      refine Ev_ite (fun h => ?_) fun h => ?_
      · have n1 := of_decide_eq_true (ht.symm.trans h)
        unfold takev
        rw [if_neg (show ¬ ¬ (chk kd fl fid body).2 = 0 from fun h => h h0), if_pos n1]
        simp only [nil_app]
        refine Ev_pos (by omega) (Ev_ite (fun h5 => ?_) fun h5 => ?_)
        · rw [if_pos h5]; exact Ev_some rfl
        · rw [if_neg h5]; exact Ev_some rfl
      · have n1 : ¬ (id = 0 ∧ kd = 1) := fun hh => h (ht.trans (decide_eq_true hh))
        refine Ev_ite (fun hi => ?_) fun hi => ?_
        · refine j1 _ n1 ?_
          by_cases hk : kd = 9
          · rw [decide_eq_false (fun hh => hh.2 hk)]; simp [hk]
          · rw [decide_eq_true ⟨hi, hk⟩]; simp [hk]
        · exact j1 false n1 (decide_eq_false (fun hh => hi hh.1)).symm
    refine Ev_ite (fun hi => ?_) fun hi => ?_
    · refine j0 _ ?_
      by_cases hk : kd = 1
      · rw [decide_eq_true ⟨hi, hk⟩]; simp [hk]
      · rw [decide_eq_false (fun hh => hk hh.2)]; simp [hk]
    · exact j0 false (decide_eq_false (fun hh => hi hh.1)).symm
  · unfold takev
    rw [if_pos h0]; exact Ev_some rfl
/-- What a frame gives, and what is open behind it. -/
def giv (m : Int) (t : Int × ByteArray × Bool × Bool × Int) : Int × ByteArray × Bool × Bool × Int × Int × Int × ByteArray × Bool :=
  if t.2.2.2.2 = 0 ∧ t.2.2.2.1 = false then (0, (⟨#[]⟩ : ByteArray), false, false, 0, m, t.1, t.2.1, t.2.2.1) else (t.1, t.2.1, t.2.2.1, t.2.2.2.1, t.2.2.2.2, m, 0, (⟨#[]⟩ : ByteArray), false)
theorem Take_ev (m id : Int) (b : ByteArray) (en : Bool) (kd fl fid : Int) (body : ByteArray) (hb : b.size ≤ 1000000000000) (hbody : body.size ≤ 1000000000000) :
    Ev (fun k => block_Blocks_Take.f k m id b en kd fl fid body) (giv m (takev m id b en kd fl fid body)) := by
  unfold block_Blocks_Take.f
  refine Ev.bind (take_ev m id b en kd fl fid body hb hbody) ?_
  generalize takev m id b en kd fl fid body = t
  obtain ⟨t1, t2, t3, t4, t5⟩ := t
  unfold giv
  refine Ev_ite (fun h => ?_) fun h => ?_
  · simp only [] at h
    cases t4 with
    | true => exact Ev.step (fun k => block_Blocks_Take.j0.eq_2 ..) (Ev_neg (by simp) (Ev.step (fun k => block_Blocks_Take.j1.eq_2 ..) (Ev_some (by simp))))
    | false => exact Ev.step (fun k => block_Blocks_Take.j0.eq_2 ..) (Ev_pos rfl (Ev.step (fun k => block_Blocks_Take.j1.eq_2 ..) (Ev_some (by simp [h]))))
  · simp only [] at h
    exact Ev.step (fun k => block_Blocks_Take.j0.eq_2 ..) (Ev_neg (by simp) (Ev.step (fun k => block_Blocks_Take.j1.eq_2 ..) (Ev_some (by simp [h]))))
/-- A block as frames: the first of this kind, with these flags. -/
def cutf (id m : Int) : Nat → Int → Int → ByteArray → List S39
  | 0, kd, fl, b => [⟨kd, Go.bits .or .i64 fl 4, id, b⟩]
  | n + 1, kd, fl, b => if (b.size : Int) > m then ⟨kd, fl, id, b.extract 0 m.toNat⟩ :: cutf id m n 9 0 (b.extract m.toNat b.size) else [⟨kd, Go.bits .or .i64 fl 4, id, b⟩]
theorem cutf_gt (id m : Int) (n : Nat) (kd fl : Int) (b : ByteArray) (h : (b.size : Int) > m) : cutf id m (n + 1) kd fl b = ⟨kd, fl, id, b.extract 0 m.toNat⟩ :: cutf id m n 9 0 (b.extract m.toNat b.size) := by
  show (if (b.size : Int) > m then _ else _) = _
  rw [if_pos h]
theorem cutf_le (id m : Int) (n : Nat) (kd fl : Int) (b : ByteArray) (h : ¬ (b.size : Int) > m) : cutf id m n kd fl b = [⟨kd, Go.bits .or .i64 fl 4, id, b⟩] := by
  cases n with
  | zero => rfl
  | succ n => show (if (b.size : Int) > m then _ else _) = _; rw [if_neg h]
theorem cut_l0 (id m : Int) (hm : 64 ≤ m) (n : Nat) : ∀ (b : ByteArray) (acc : List S39) (kd fl : Int) (b0 : ByteArray), b.size ≤ n → acc.length + n ≤ 100000 →
    Ev (fun k => block_Cut.l0 k id b m acc kd fl id b0) (acc ++ cutf id m n kd fl b, true) := by
  induction n with
  | zero =>
    intro b acc kd fl b0 hb ha
    exact Ev.step (fun k => block_Cut.l0.eq_2 ..) (Ev_neg (by omega) (Ev_pos (by omega) (Ev_some rfl)))
  | succ n ih =>
    intro b acc kd fl b0 hb ha
    refine Ev.step (fun k => block_Cut.l0.eq_2 ..) ?_
    unfold cutf
    refine Ev_ite (fun h => ?_) fun h => ?_
    · rw [if_pos h]
      refine Ev_pos (by omega) (Ev_pos (by omega) (Ev_pos (by omega) ?_))
      have hc := cut_size b m.toNat b.size (by omega) (by omega)
      have := ih (b.extract m.toNat b.size) (acc ++ [⟨kd, fl, id, b.extract 0 m.toNat⟩]) 9 0 (⟨#[]⟩ : ByteArray) (by omega) (by rw [List.length_append]; show acc.length + 1 + n ≤ _; omega)
      rw [List.append_assoc] at this
      exact this
    · rw [if_neg h]
      exact Ev_pos (by omega) (Ev_some rfl)
def cutl (id : Int) (b : ByteArray) (en : Bool) (m : Int) : List S39 := cutf id m b.size 1 (if en = true then 1 else 0) b
theorem cut_ev (id : Int) (b : ByteArray) (en : Bool) (m : Int) (h1 : 1 ≤ id) (h2 : id ≤ 2147483647) (h3 : 64 ≤ m) (h4 : m ≤ 512) (hb : b.size ≤ 10000) : Ev (fun k => block_Cut.f k id b en m) (cutl id b en m, true) := by
  unfold block_Cut.f cutl
  refine Ev_neg (by omega) (Ev_neg (by omega) (Ev_neg (by omega) ?_))
  refine Ev.step (fun k => block_Cut.j0.eq_2 ..) (Ev_neg (by simp; omega) ?_)
  have key : ∀ fl : Int, Ev (fun k => block_Cut.j1 k id b m ([] : List S39) 1 fl id (⟨#[]⟩ : ByteArray)) (cutf id m b.size 1 fl b, true) := by
    intro fl
    refine Ev.step (fun k => block_Cut.j1.eq_2 ..) ?_
    exact cut_l0 id m h3 b.size b [] 1 fl _ (Nat.le_refl _) (by simp; omega)
  refine Ev_ite (fun h => ?_) fun h => ?_
  · rw [if_pos h]; exact key 1
  · rw [if_neg h]; exact key 0
theorem cut_no (id : Int) (b : ByteArray) (en : Bool) (m : Int) (h : ¬ (1 ≤ id ∧ id ≤ 2147483647 ∧ 64 ≤ m ∧ m ≤ 512)) : Ev (fun k => block_Cut.f k id b en m) (([] : List S39), false) := by
  unfold block_Cut.f
  have j0 : Ev (fun k => block_Cut.j0 k id b en m true) (([] : List S39), false) := Ev.step (fun k => block_Cut.j0.eq_2 ..) (Ev_pos rfl (Ev_some rfl))
  refine Ev_ite (fun _ => j0) fun h1 => Ev_ite (fun _ => j0) fun h2 => Ev_ite (fun _ => j0) fun h3 => ?_
  rw [decide_eq_true (show m > 512 by omega)]
  exact j0
/-- Flags without padding and weight. -/
def plainF (fl : Int) : Prop := Go.bits .and .i64 fl 8 = 0 ∧ (Go.bits .and .i64 fl 32 != 0) = false ∧ 0 ≤ fl ∧ fl ≤ 255
theorem strip_plain (kd fl : Int) (b : ByteArray) (h : plainF fl) : strip kd fl b = (b, 0, 0) := by
  obtain ⟨h8, h32, _⟩ := h
  have hb : bare fl b = (b, true) := by unfold bare; rw [if_pos h8]
  unfold strip
  split
  · rw [hb]; simp only [if_true, h32, Bool.and_false]
    unfold unweigh
    simp
  · rfl
theorem chk_head (kd fl id : Int) (b : ByteArray) (hk : kd = 1 ∨ kd = 9) (h : plainF fl) (h1 : 1 ≤ id) (h2 : id ≤ 2147483647) (hb : b.size ≤ 10000) : chk kd fl id b = (0, 0) := by
  have hr : rightB kd fl id b = true := by
    obtain ⟨_, _, h3, h4⟩ := h
    exact decide_eq_true (by omega)
  have hp : placedB kd id = true := by
    rcases hk with rfl | rfl <;> simp [placedB, streamedB] <;> omega
  have hz : sizedB kd fl (b.size : Int) = true := by
    rcases hk with rfl | rfl <;> simp [sizedB]
  unfold chk
  rw [if_pos hr, if_pos hp, if_pos hz, strip_plain kd fl b h]
  simp
theorem take_head (m fl id : Int) (b b0 : ByteArray) (en : Bool) (h : plainF fl) (h1 : 1 ≤ id) (h2 : id ≤ 2147483647) (hb : b.size ≤ 10000) : takev m 0 b0 en 1 fl id b = if (b.size : Int) > m then (0, (⟨#[]⟩ : ByteArray), false, false, 5) else (id, b, (Go.bits .and .i64 fl 1 != 0), (Go.bits .and .i64 fl 4 != 0), 0) := by
  unfold takev
  rw [chk_head 1 fl id b (.inl rfl) h h1 h2 hb, if_neg (by simp), if_pos ⟨rfl, rfl⟩, strip_plain 1 fl b h]
theorem take_cont (m fl id : Int) (b b0 : ByteArray) (en : Bool) (h : plainF fl) (h1 : 1 ≤ id) (h2 : id ≤ 2147483647) (hb : b.size ≤ 10000) : takev m id b0 en 9 fl id b = if ((b0 ++ b).size : Int) > m then (0, (⟨#[]⟩ : ByteArray), false, false, 5) else (id, b0 ++ b, en, (Go.bits .and .i64 fl 4 != 0), 0) := by
  unfold takev
  rw [chk_head 9 fl id b (.inr rfl) h h1 h2 hb, if_neg (by simp), if_neg (by omega), if_neg (by omega), if_neg (by omega), strip_plain 9 fl b h]
theorem p0 : plainF 0 := by refine ⟨by decide, by decide, by decide, by decide⟩
theorem p1 : plainF 1 := by refine ⟨by decide, by decide, by decide, by decide⟩
theorem p4 : plainF (Go.bits .or .i64 0 4) := by refine ⟨by decide, by decide, by decide, by decide⟩
theorem p5 : plainF (Go.bits .or .i64 1 4) := by refine ⟨by decide, by decide, by decide, by decide⟩
theorem alive_cutl (Z : ByteArray) (hz : Z.size = 100) : cutl 3 Z true 64 = [⟨1, 1, 3, Z.extract 0 64⟩, ⟨9, Go.bits .or .i64 0 4, 3, Z.extract 64 Z.size⟩] := by
  unfold cutl
  rw [hz]
  have e := cutf_gt 3 64 99 1 1 Z (by omega)
  have e64 : (64 : Int).toNat = 64 := rfl
  have c2 := cut_size Z 64 Z.size (by omega) (by omega)
  rw [e64, cutf_le 3 64 99 9 0 _ (by omega)] at e
  have e100 : (100 : Nat) = 99 + 1 := rfl
  rw [if_pos rfl, e100, e]; simp only [hz]
theorem alive_t1 (Z : ByteArray) (hz : Z.size = 100) : giv 200 (takev 200 0 (⟨#[]⟩ : ByteArray) false 1 1 3 (Z.extract 0 64)) = (0, (⟨#[]⟩ : ByteArray), false, false, 0, 200, 3, Z.extract 0 64, true) := by
  have c1 := cut_size Z 0 64 (by omega) (by omega)
  rw [take_head 200 1 3 _ _ false p1 (by omega) (by omega) (by omega), if_neg (by omega)]
  rfl
theorem alive_t2 (Z : ByteArray) (hz : Z.size = 100) : giv 200 (takev 200 3 (Z.extract 0 64) true 9 (Go.bits .or .i64 0 4) 3 (Z.extract 64 Z.size)) = (3, Z, true, true, 0, 200, 0, (⟨#[]⟩ : ByteArray), false) := by
  have c2 := cut_size Z 64 Z.size (by omega) (by omega)
  rw [take_cont 200 _ 3 _ _ true p4 (by omega) (by omega) (by omega), cut_join Z 64 (by omega), if_neg (by omega)]
  rfl

theorem cut_head (b : ByteArray) (i m : Nat) (h : i + m ≤ b.size) : (b.extract i b.size).extract 0 m = b.extract i (i + m) := by
  have s1 := cut_size b i b.size (by omega) (Nat.le_refl _)
  have n1 : ∀ n, i + n < b.size → nth (b.extract i b.size) n = nth b (i + n) := fun n h => nth_cut b i b.size n h (Nat.le_refl _)
  have s3 := cut_size b i (i + m) (by omega) h
  have n3 : ∀ n, i + n < i + m → nth (b.extract i (i + m)) n = nth b (i + n) := fun n h2 => nth_cut b i (i + m) n h2 h
  generalize b.extract i b.size = c at *
  generalize b.extract i (i + m) = e at *
  have s2 := cut_size c 0 m (by omega) (by omega)
  refine nth_ext (by omega) (fun n hn => ?_)
  rw [nth_cut c 0 m n (by omega) (by omega), n1 (0 + n) (by omega), n3 n (by omega)]
  congr 1; omega
theorem cut_rest (b : ByteArray) (i m : Nat) (h : i + m ≤ b.size) : (b.extract i b.size).extract m (b.extract i b.size).size = b.extract (i + m) b.size := by
  have s1 := cut_size b i b.size (by omega) (Nat.le_refl _)
  have n1 : ∀ n, i + n < b.size → nth (b.extract i b.size) n = nth b (i + n) := fun n h => nth_cut b i b.size n h (Nat.le_refl _)
  have s3 := cut_size b (i + m) b.size (by omega) (Nat.le_refl _)
  have n3 : ∀ n, i + m + n < b.size → nth (b.extract (i + m) b.size) n = nth b (i + m + n) := fun n h => nth_cut b (i + m) b.size n h (Nat.le_refl _)
  generalize b.extract i b.size = c at *
  generalize b.extract (i + m) b.size = e at *
  have s2 := cut_size c m c.size (by omega) (Nat.le_refl _)
  refine nth_ext (by omega) (fun n hn => ?_)
  rw [nth_cut c m c.size n (by omega) (Nat.le_refl _), n1 (m + n) (by omega), n3 n (by omega)]
  congr 1; omega
theorem mn_left (a b : Int) (h : a ≤ b) : mn a b = a := by have := mn_le a b; omega
theorem mn_right (a b : Int) (h : b ≤ a) : mn a b = b := by have := mn_le a b; omega
theorem rcut_end (id m : Int) (b : ByteArray) (en : Bool) (acc : List S39) (i : Int) (h0 : ¬ i = 0) (h : ¬ i < (b.size : Int)) : Ev (fun k => bywashref1_Cut.l0 k id b en m acc i) (acc, true) := by
  refine Ev.step (fun k => bywashref1_Cut.l0.eq_2 ..) (Ev_neg h0 ?_)
  rw [decide_eq_false h]
  exact Ev.step (fun k => bywashref1_Cut.j2.eq_2 ..) (Ev_neg (by simp) (Ev_some rfl))
theorem rcut_j5 {r : List S39 × Bool} (id m : Int) (b : ByteArray) (en : Bool) (acc : List S39) (i i2 kd fl : Int) (body : ByteArray) (hl : acc.length ≤ 100000) (w : wrap64 (i + m) = i2) (h : Ev (fun k => bywashref1_Cut.l0 k id b en m (acc ++ [⟨kd, fl, id, body⟩]) i2) r) : Ev (fun k => bywashref1_Cut.j5 k id b en m acc i kd fl id body) r := by
  refine Ev.step (fun k => bywashref1_Cut.j5.eq_2 ..) (Ev_pos (by omega) ?_)
  rw [w]
  exact h
theorem rcut_last {r : List S39 × Bool} (id m : Int) (b : ByteArray) (en : Bool) (acc : List S39) (i i2 kd fl : Int) (body : ByteArray) (hl : acc.length ≤ 100000) (w : wrap64 (i + m) = i2) (hg : i2 ≥ (b.size : Int)) (h : Ev (fun k => bywashref1_Cut.l0 k id b en m (acc ++ [⟨kd, Go.bits .or .i64 fl 4, id, body⟩]) i2) r) : Ev (fun k => bywashref1_Cut.j4 k id b en m acc i kd fl id body) r := by
  refine Ev.step (fun k => bywashref1_Cut.j4.eq_2 ..) (Ev_pos (by rw [w]; exact hg) ?_)
  exact rcut_j5 id m b en acc i i2 kd _ body hl w h
theorem rcut_mid {r : List S39 × Bool} (id m : Int) (b : ByteArray) (en : Bool) (acc : List S39) (i i2 kd fl : Int) (body : ByteArray) (hl : acc.length ≤ 100000) (w : wrap64 (i + m) = i2) (hg : ¬ i2 ≥ (b.size : Int)) (h : Ev (fun k => bywashref1_Cut.l0 k id b en m (acc ++ [⟨kd, fl, id, body⟩]) i2) r) : Ev (fun k => bywashref1_Cut.j4 k id b en m acc i kd fl id body) r := by
  refine Ev.step (fun k => bywashref1_Cut.j4.eq_2 ..) (Ev_neg (by rw [w]; exact hg) ?_)
  exact rcut_j5 id m b en acc i i2 kd _ body hl w h
theorem rcut_l0 (id : Int) (m : Nat) (hm : 64 ≤ m) (hm2 : m ≤ 512) (b : ByteArray) (en : Bool) (hb : b.size ≤ 10000) (n : Nat) : ∀ (i : Nat) (acc : List S39), 0 < i → i < b.size → b.size - i ≤ n → acc.length + n ≤ 100000 →
    Ev (fun k => bywashref1_Cut.l0 k id b en (m : Int) acc (i : Int)) (acc ++ cutf id (m : Int) n 9 0 (b.extract i b.size), true) := by
  induction n with
  | zero => intro i acc h1 h2 h3 _; omega
  | succ n ih =>
    intro i acc h1 h2 h3 h4
    have w : wrap64 ((i : Int) + (m : Int)) = ((i + m : Nat) : Int) := by rw [wid (by omega) (by omega)]; omega
    have sz := cut_size b i b.size (by omega) (Nat.le_refl _)
    refine Ev.step (fun k => bywashref1_Cut.l0.eq_2 ..) (Ev_neg (by omega) ?_)
    rw [decide_eq_true (show (i : Int) < (b.size : Int) by omega)]
    refine Ev.step (fun k => bywashref1_Cut.j2.eq_2 ..) (Ev_pos rfl ?_)
    rw [w]
    by_cases h : b.size ≤ i + m
    · rw [mn_right _ _ (by omega)]
      refine Ev_pos (by omega) (Ev_pos (by omega) (Ev_pos (by omega) (Ev_neg (by omega) (rcut_last id (m : Int) b en acc (i : Int) ((i + m : Nat) : Int) 9 0 _ (by omega) w (by omega) ?_))))
      simp only [Int.toNat_natCast]
      rw [cutf_le id (m : Int) (n + 1) 9 0 _ (by rw [sz]; omega)]
      exact rcut_end id (m : Int) b en _ _ (by omega) (by omega)
    · rw [mn_left _ _ (by omega)]
      refine Ev_pos (by omega) (Ev_pos (by omega) (Ev_pos (by omega) (Ev_neg (by omega) (rcut_mid id (m : Int) b en acc (i : Int) ((i + m : Nat) : Int) 9 0 _ (by omega) w (by omega) ?_))))
      simp only [Int.toNat_natCast]
      have h5 := ih (i + m) (acc ++ [⟨9, 0, id, b.extract i (i + m)⟩]) (by omega) (by omega) (by omega) (by rw [List.length_append]; show acc.length + 1 + n ≤ _; omega)
      rw [cutf_gt id (m : Int) n 9 0 _ (by rw [sz]; omega), Int.toNat_natCast, cut_head b i m (by omega), cut_rest b i m (by omega)]
      rw [List.append_assoc] at h5
      exact h5
theorem rcut_ev (id : Int) (b : ByteArray) (en : Bool) (m : Nat) (h1 : 1 ≤ id) (h2 : id ≤ 2147483647) (h3 : 64 ≤ m) (h4 : m ≤ 512) (hb : b.size ≤ 10000) : Ev (fun k => bywashref1_Cut.f k id b en (m : Int)) (cutl id b en (m : Int), true) := by
  unfold bywashref1_Cut.f cutl
  refine Ev_neg (by omega) (Ev_neg (by omega) (Ev_neg (by omega) ?_))
  rw [decide_eq_false (show ¬ (m : Int) > 512 by omega)]
  refine Ev.step (fun k => bywashref1_Cut.j0.eq_2 ..) (Ev_neg (by simp) ?_)
  refine Ev.step (fun k => bywashref1_Cut.l0.eq_2 ..) (Ev_pos rfl ?_)
  have w : wrap64 ((0 : Int) + (m : Int)) = (m : Int) := by rw [wid (by omega) (by omega)]; omega
  refine Ev.step (fun k => bywashref1_Cut.j2.eq_2 ..) (Ev_pos rfl ?_)
  rw [w]
  by_cases h : b.size ≤ m
  · rw [mn_right _ _ (by omega)]
    refine Ev_pos (by omega) (Ev_pos (by omega) (Ev_pos (by omega) (Ev_pos rfl ?_)))
    rw [cutf_le id (m : Int) b.size 1 _ b (by omega)]
    have e0 : b.extract (0 : Int).toNat ((b.size : Int)).toNat = b := by rw [Int.toNat_natCast]; exact cut_all b
    rw [e0]
    have key : ∀ fl, Ev (fun k => bywashref1_Cut.j3 k id b en (m : Int) ([] : List S39) 0 1 fl id b) ([⟨1, Go.bits .or .i64 fl 4, id, b⟩], true) := fun fl =>
      Ev.step (fun k => bywashref1_Cut.j3.eq_2 ..) (rcut_last id (m : Int) b en [] 0 (m : Int) 1 fl b (by show 0 ≤ 100000; omega) w (by omega) (rcut_end id (m : Int) b en _ _ (by omega) (by omega)))
    refine Ev_ite (fun he => ?_) fun he => ?_
    · rw [if_pos he]; exact key 1
    · rw [if_neg he]; exact key 0
  · rw [mn_left _ _ (by omega)]
    refine Ev_pos (by omega) (Ev_pos (by omega) (Ev_pos (by omega) (Ev_pos rfl ?_)))
    obtain ⟨n, hn⟩ : ∃ n, b.size = n + 1 := ⟨b.size - 1, by omega⟩
    have e1 : ∀ fl, cutf id (m : Int) b.size 1 fl b = ⟨1, fl, id, b.extract 0 m⟩ :: cutf id (m : Int) n 9 0 (b.extract m b.size) := by
      intro fl
      have h5 := cutf_gt id (m : Int) n 1 fl b (by omega)
      rw [Int.toNat_natCast] at h5
      rw [← h5]
      congr 1
    rw [e1]
    have e0 : b.extract (0 : Int).toNat ((m : Int)).toNat = b.extract 0 m := by rw [Int.toNat_natCast]; rfl
    rw [e0]
    have key : ∀ fl, Ev (fun k => bywashref1_Cut.l0 k id b en (m : Int) ([] ++ [⟨1, fl, id, b.extract 0 m⟩]) (m : Int)) (⟨1, fl, id, b.extract 0 m⟩ :: cutf id (m : Int) n 9 0 (b.extract m b.size), true) := fun fl => rcut_l0 id m h3 h4 b en hb n m [⟨1, fl, id, b.extract 0 m⟩] (by omega) (by omega) (by omega) (by show 1 + n ≤ 100000; omega)
    have key3 : ∀ fl, Ev (fun k => bywashref1_Cut.j3 k id b en (m : Int) ([] : List S39) 0 1 fl id (b.extract 0 m)) (⟨1, fl, id, b.extract 0 m⟩ :: cutf id (m : Int) n 9 0 (b.extract m b.size), true) := fun fl =>
      Ev.step (fun k => bywashref1_Cut.j3.eq_2 ..) (rcut_mid id (m : Int) b en [] 0 (m : Int) 1 fl _ (by show 0 ≤ 100000; omega) w (by omega) (key fl))
    refine Ev_ite (fun he => ?_) fun he => ?_
    · rw [if_pos he]; exact key3 1
    · rw [if_neg he]; exact key3 0
theorem rcut_no (id : Int) (b : ByteArray) (en : Bool) (m : Int) (h : ¬ (1 ≤ id ∧ id ≤ 2147483647 ∧ 64 ≤ m ∧ m ≤ 512)) : Ev (fun k => bywashref1_Cut.f k id b en m) (([] : List S39), false) := by
  unfold bywashref1_Cut.f
  have j0 : Ev (fun k => bywashref1_Cut.j0 k id b en m true) (([] : List S39), false) := Ev.step (fun k => bywashref1_Cut.j0.eq_2 ..) (Ev_pos rfl (Ev_some rfl))
  refine Ev_ite (fun _ => j0) fun h1 => Ev_ite (fun _ => j0) fun h2 => Ev_ite (fun _ => j0) fun h3 => ?_
  rw [decide_eq_true (show m > 512 by omega)]
  exact j0
theorem cutf_length (id m : Int) (hm : 64 ≤ m) (n : Nat) : ∀ (kd fl : Int) (b : ByteArray), (cutf id m n kd fl b).length ≤ b.size / 64 + 1 := by
  induction n with
  | zero => intro kd fl b; show 1 ≤ _; omega
  | succ n ih =>
    intro kd fl b
    by_cases h : (b.size : Int) > m
    · rw [cutf_gt id m n kd fl b h, List.length_cons]
      have := ih 9 0 (b.extract m.toNat b.size)
      rw [cut_size b m.toNat b.size (by omega) (Nat.le_refl _)] at this
      omega
    · rw [cutf_le id m (n + 1) kd fl b h]; show 1 ≤ _; omega
theorem cutf_ne (id m : Int) (n : Nat) (kd fl : Int) (b : ByteArray) : cutf id m n kd fl b ≠ [] := by
  cases n with
  | zero => intro h; cases h
  | succ n =>
    unfold cutf
    split <;> intro h <;> cases h
/-- What the frames of a block leave to be put together: the frames still to come, what is open. -/
inductive Tell (id : Int) (b : ByteArray) (en : Bool) (m : Int) : List S39 → Int → ByteArray → Bool → Prop where
  | done : Tell id b en m [] 0 (⟨#[]⟩ : ByteArray) false
  | first (n : Nat) (h : b.size ≤ n) : Tell id b en m (cutf id m n 1 (if en = true then 1 else 0) b) 0 (⟨#[]⟩ : ByteArray) false
  | more (n : Nat) (b0 c : ByteArray) (h : c.size ≤ n) (e : b0 ++ c = b) : Tell id b en m (cutf id m n 9 0 c) id b0 en
theorem tell_step (id : Int) (b : ByteArray) (en : Bool) (m M : Int) (h1 : 1 ≤ id) (h2 : id ≤ 2147483647) (hm : 64 ≤ m) (hb : b.size ≤ 10000) (hM : (b.size : Int) ≤ M) {x : S39} {xs : List S39} {id' : Int} {b' : ByteArray} {en' : Bool} (h : Tell id b en m (x :: xs) id' b' en') :
    (∃ b2, giv M (takev M id' b' en' x.f0 x.f1 x.f2 x.f3) = (0, (⟨#[]⟩ : ByteArray), false, false, 0, M, id, b2, en) ∧ xs ≠ [] ∧ Tell id b en m xs id b2 en) ∨
    (giv M (takev M id' b' en' x.f0 x.f1 x.f2 x.f3) = (id, b, en, true, 0, M, 0, (⟨#[]⟩ : ByteArray), false) ∧ xs = [] ∧ Tell id b en m xs 0 (⟨#[]⟩ : ByteArray) false) := by
  generalize hl : x :: xs = l at h
  cases h with
  | done => cases hl
  | first n hn =>
    by_cases hg : (b.size : Int) > m
    · left
      obtain ⟨k, rfl⟩ : ∃ k, n = k + 1 := ⟨n - 1, by omega⟩
      rw [cutf_gt id m k 1 _ b hg] at hl
      obtain ⟨rfl, rfl⟩ := List.cons.inj hl
      have s0 := cut_size b 0 m.toNat (by omega) (by omega)
      have s1 := cut_size b m.toNat b.size (by omega) (Nat.le_refl _)
      refine ⟨b.extract 0 m.toNat, ?_, cutf_ne _ _ _ _ _ _, Tell.more k _ _ (by omega) (cut_join b m.toNat (by omega))⟩
      cases en
      · show giv M (takev M 0 (⟨#[]⟩ : ByteArray) false 1 0 id (b.extract 0 m.toNat)) = _
        rw [take_head M _ id _ _ false p0 h1 h2 (by omega), if_neg (by omega)]
        rfl
      · show giv M (takev M 0 (⟨#[]⟩ : ByteArray) false 1 1 id (b.extract 0 m.toNat)) = _
        rw [take_head M _ id _ _ false p1 h1 h2 (by omega), if_neg (by omega)]
        rfl
    · right
      rw [cutf_le id m n 1 _ b hg] at hl
      obtain ⟨rfl, rfl⟩ := List.cons.inj hl
      refine ⟨?_, rfl, Tell.done⟩
      cases en
      · show giv M (takev M 0 (⟨#[]⟩ : ByteArray) false 1 (Go.bits .or .i64 0 4) id b) = _
        rw [take_head M _ id _ _ false p4 h1 h2 (by omega), if_neg (by omega)]
        rfl
      · show giv M (takev M 0 (⟨#[]⟩ : ByteArray) false 1 (Go.bits .or .i64 1 4) id b) = _
        rw [take_head M _ id _ _ false p5 h1 h2 (by omega), if_neg (by omega)]
        rfl
  | more n b0 c hn he =>
    have hs : b'.size + c.size = b.size := by rw [← he, app_size]
    by_cases hg : (c.size : Int) > m
    · left
      obtain ⟨k, rfl⟩ : ∃ k, n = k + 1 := ⟨n - 1, by omega⟩
      rw [cutf_gt id m k 9 0 c hg] at hl
      obtain ⟨rfl, rfl⟩ := List.cons.inj hl
      have s0 := cut_size c 0 m.toNat (by omega) (by omega)
      have s1 := cut_size c m.toNat c.size (by omega) (Nat.le_refl _)
      refine ⟨b' ++ c.extract 0 m.toNat, ?_, cutf_ne _ _ _ _ _ _, Tell.more k _ _ (by omega) (by rw [app_assoc, cut_join c m.toNat (by omega), he])⟩
      show giv M (takev M id b' en 9 0 id (c.extract 0 m.toNat)) = _
      rw [take_cont M _ id _ _ en p0 h1 h2 (by omega), if_neg (by rw [app_size]; omega)]
      rfl
    · right
      rw [cutf_le id m n 9 0 c hg] at hl
      obtain ⟨rfl, rfl⟩ := List.cons.inj hl
      refine ⟨?_, rfl, Tell.done⟩
      show giv M (takev M id b' en 9 (Go.bits .or .i64 0 4) id c) = _
      rw [take_cont M _ id _ _ en p4 h1 h2 (by omega), he, if_neg (by omega)]
      rfl

end Go.Proofs.Ytdonanibfifodaa.Pure
