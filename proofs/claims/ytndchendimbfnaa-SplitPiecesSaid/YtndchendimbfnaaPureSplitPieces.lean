/- What the printed functions that SplitPieces calls compute. Conditions: those of the statement itself. -/
import Derived.Test.YtndchendimbfnaaPSplitPiecesx0
import Derived.Test.YtndchendimbfnaaPSplitPiecesx1
import Derived.Test.YtndchendimbfnaaPSplitPiecesx2
import Derived.Test.YtndchendimbfnaaPSplitPiecesx3
import Derived.Test.YtndchendimbfnaaAid
namespace Go.Proofs.Ytndchendimbfnaa.Pure
open Go.RowKit Go.Proofs.YtndchendimbfnaaW.PrintWords Go.Proofs.YtndchendimbfnaaW.PrintLast Go.Proofs.YtndchendimbfnaaW.PrintMore Go.Proofs.Ytndchendimbfnaa.Aid Go.Proofs.Ytndchendimbfnaa.PSplitPieces
set_option linter.unusedVariables false
set_option linter.unusedSimpArgs false

theorem tl_eq (a : ByteArray) : a.toList = a.data.toList := ByteArray.toList_eq a
theorem ba_ext {a b : ByteArray} (h : a.data = b.data) : a = b := by cases a; cases b; cases h; rfl
theorem ba_of_list {a b : ByteArray} (h : a.toList = b.toList) : a = b := by
  rw [tl_eq, tl_eq] at h
  exact ba_ext (Array.toList_inj.1 h)
theorem tl_nil (b : ByteArray) : b.toList = ([] : List UInt8) ↔ b.size = 0 := by
  rw [tl_eq]
  constructor
  · intro h
    have := congrArg List.length h
    rw [Array.length_toList] at this
    exact this
  · intro h
    have : b.data.toList.length = 0 := by rw [Array.length_toList]; exact h
    exact List.length_eq_zero_iff.1 this
theorem nil_of_size {c : ByteArray} (h : c.size = 0) : c = ⟨#[]⟩ := ba_of_list (by rw [(tl_nil c).2 h, (tl_nil _).2 rfl])
theorem bt_r (s : ByteArray) (i : Int) : 0 ≤ bt s i ∧ bt s i ≤ 255 := bt_range s i
def nth (s : ByteArray) (n : Nat) : Int := ((s.data[n]?).map fun x => (x.toNat : Int)).getD 0
theorem bt_nth (s : ByteArray) (i : Int) : bt s i = nth s i.toNat := by
  unfold bt nth
  by_cases h : i.toNat < s.size
  · rw [dif_pos h]
    have h' : i.toNat < s.data.size := h
    rw [Array.getElem?_eq_getElem h']
    rfl
  · rw [dif_neg h]
    have h' : s.data.size ≤ i.toNat := Nat.le_of_not_lt h
    rw [Array.getElem?_eq_none h']
    rfl
theorem nth_app (a b : ByteArray) (n : Nat) : nth (a ++ b) n = if n < a.size then nth a n else nth b (n - a.size) := by
  unfold nth
  rw [ByteArray.data_append]
  have hs : a.size = a.data.size := rfl
  by_cases h : n < a.size
  · rw [if_pos h, Array.getElem?_append_left (by omega)]
  · rw [if_neg h, Array.getElem?_append_right (by omega), ← hs]
theorem nth_cut (b : ByteArray) (lo hi n : Nat) (h : lo + n < hi) (hh : hi ≤ b.size) : nth (b.extract lo hi) n = nth b (lo + n) := by
  unfold nth
  rw [ByteArray.data_extract, Array.getElem?_extract, if_pos]
  have hs : b.size = b.data.size := rfl
  rw [← hs]; omega
theorem nth_nums (l : List Int) (n : Nat) (h : n < l.length) (h0 : 0 ≤ l[n]) : nth (strOfNums l) n = l[n] % 256 := by
  unfold nth strOfNums
  simp only [List.getElem?_toArray, List.getElem?_map, List.getElem?_eq_getElem h, Option.map_some, Option.getD_some, UInt8.toNat_ofNat']
  omega
theorem nth_ext {a b : ByteArray} (hs : a.size = b.size) (h : ∀ n, n < a.size → nth a n = nth b n) : a = b := by
  apply ba_ext
  apply Array.ext hs
  intro i h1 h2
  have := h i h1
  unfold nth at this
  rw [Array.getElem?_eq_getElem h1, Array.getElem?_eq_getElem h2] at this
  simp only [Option.map_some, Option.getD_some] at this
  exact UInt8.toNat_inj.1 (by omega)
theorem app_size (a b : ByteArray) : (a ++ b).size = a.size + b.size := ByteArray.size_append
theorem app_assoc (a b c : ByteArray) : a ++ b ++ c = a ++ (b ++ c) := by
  apply ba_ext
  simp only [ByteArray.data_append, Array.append_assoc]
theorem app_nil (a : ByteArray) (b : ByteArray) (h : b.size = 0) : a ++ b = a := by
  apply ba_ext
  rw [ByteArray.data_append]
  have : b.data = #[] := Array.eq_empty_of_size_eq_zero h
  rw [this, Array.append_empty]
theorem nil_app (b : ByteArray) : (⟨#[]⟩ : ByteArray) ++ b = b := by
  apply ba_ext
  rw [ByteArray.data_append]
  exact Array.empty_append
theorem cut_size (b : ByteArray) (lo hi : Nat) (h : lo ≤ hi) (hh : hi ≤ b.size) : (b.extract lo hi).size = hi - lo := by rw [ByteArray.size_extract]; omega
theorem cut_all (b : ByteArray) : b.extract 0 b.size = b := by
  apply ba_ext
  rw [ByteArray.data_extract]
  exact Array.extract_size
theorem cut_join (b : ByteArray) (m : Nat) (h : m ≤ b.size) : b.extract 0 m ++ b.extract m b.size = b := by
  apply ba_ext
  have hs : b.size = b.data.size := rfl
  rw [ByteArray.data_append, ByteArray.data_extract, ByteArray.data_extract, Array.extract_append_extract]
  have e1 : min 0 m = 0 := by omega
  have e2 : max m b.size = b.data.size := by rw [← hs]; omega
  rw [e1, e2, Array.extract_size]
theorem cut_left (a b : ByteArray) : (a ++ b).extract 0 a.size = a := by
  apply nth_ext
  · rw [cut_size _ _ _ (Nat.zero_le _) (by rw [app_size]; omega)]; omega
  · intro n hn
    rw [cut_size _ _ _ (Nat.zero_le _) (by rw [app_size]; omega)] at hn
    rw [nth_cut _ _ _ _ (by omega) (by rw [app_size]; omega), nth_app, if_pos (by omega), Nat.zero_add]
theorem cut_right (a b : ByteArray) : (a ++ b).extract a.size (a ++ b).size = b := by
  have hs := app_size a b
  apply nth_ext
  · rw [cut_size _ _ _ (by omega) (Nat.le_refl _)]; omega
  · intro n hn
    rw [cut_size _ _ _ (by omega) (Nat.le_refl _)] at hn
    rw [nth_cut _ _ _ _ (by omega) (Nat.le_refl _), nth_app, if_neg (by omega), Nat.add_sub_cancel_left]
theorem mask63 (i : Nat) (hi : i ≤ 62) (x : Int) (h0 : 0 ≤ x) (h1 : x < 2 ^ 62) : Go.bits .and .i64 x (2 ^ i - 1) = x % 2 ^ i :=
  bits_mask .i64 62 (by decide) (fun n h0 h1 => by rw [IntKind.wrap_i64]; omega) i hi x h0 h1
theorem or_byte (x y : Int) (hx : 0 ≤ x) (hx' : x ≤ 1099511627776) (hy : 0 ≤ y) (hy' : y ≤ 255) : Go.bits .or .i64 (wrap64 (x * 256)) (wrap64 y) = x * 256 + y := by
  rw [wid (by omega) (by omega), wid (by omega) (by omega)]
  exact bits_join .i64 62 (by decide) (fun n h0 h1 => by rw [IntKind.wrap_i64]; omega) 8 (x * 256) y (by omega) (by omega) (by omega) hy (by omega) (by omega)

def head9 (kd fl id len : Int) : List Int := [len / 65536 % 256, len / 256 % 256, len % 256, kd % 256, fl % 256, id / 16777216 % 256, id / 65536 % 256, id / 256 % 256, id % 256]
/-- A frame as bytes. -/
def putv (kd fl id : Int) (b : ByteArray) : ByteArray := strOfNums (head9 kd fl id (b.size : Int)) ++ b
theorem nums_app (a b : List Int) : strOfNums a ++ strOfNums b = strOfNums (a ++ b) := by
  apply ba_ext
  rw [ByteArray.data_append]
  simp [strOfNums]
theorem nums_size (l : List Int) : (strOfNums l).size = l.length := strOfNums_size l
theorem putv_size (kd fl id : Int) (b : ByteArray) : (putv kd fl id b).size = 9 + b.size := by
  unfold putv; rw [app_size, nums_size]; rfl
def rightB (kd fl id : Int) (b : ByteArray) : Bool := decide (0 ≤ kd ∧ kd ≤ 255 ∧ 0 ≤ fl ∧ fl ≤ 255 ∧ 0 ≤ id ∧ id ≤ 2147483647 ∧ b.size ≤ 16777215)
def put (kd fl id : Int) (b : ByteArray) : ByteArray × Bool := if rightB kd fl id b = true then (putv kd fl id b, true) else (⟨#[]⟩, false)
def num3 (b : ByteArray) (i : Nat) : Int := (nth b i * 256 + nth b (i + 1)) * 256 + nth b (i + 2)
def num4 (b : ByteArray) (i : Nat) : Int := ((nth b i * 256 + nth b (i + 1)) * 256 + nth b (i + 2)) * 256 + nth b (i + 3)
theorem nth_r (b : ByteArray) (n : Nat) : 0 ≤ nth b n ∧ nth b n ≤ 255 := by
  have := bt_r b (n : Int)
  rw [bt_nth] at this
  simpa using this
/-- The first frame of bytes. -/
def getv (b : ByteArray) : Int × Int × Int × ByteArray × Int × Int :=
  if b.size < 9 ∨ (b.size : Int) < 9 + num3 b 0 then (0, 0, 0, ⟨#[]⟩, 0, 2) else (nth b 3, nth b 4, num4 b 5 % 2147483648, b.extract 9 (9 + num3 b 0).toNat, 9 + num3 b 0, 0)
theorem num3_r (b : ByteArray) (i : Nat) : 0 ≤ num3 b i ∧ num3 b i ≤ 16777215 := by
  have h0 := nth_r b i
  have h1 := nth_r b (i + 1)
  have h2 := nth_r b (i + 2)
  unfold num3; omega
theorem num4_r (b : ByteArray) (i : Nat) : 0 ≤ num4 b i ∧ num4 b i ≤ 4294967295 := by
  have h0 := nth_r b i
  have h1 := nth_r b (i + 1)
  have h2 := nth_r b (i + 2)
  have h3 := nth_r b (i + 3)
  unfold num4; omega
theorem head_nth (kd fl id len : Int) (hk : 0 ≤ kd) (hf : 0 ≤ fl) (hi : 0 ≤ id) (hl : 0 ≤ len) (n : Nat) (hn : n < 9) : nth (strOfNums (head9 kd fl id len)) n = (head9 kd fl id len)[n]'(by simpa [head9] using hn) := by
  have hlen : (head9 kd fl id len).length = 9 := rfl
  have : n = 0 ∨ n = 1 ∨ n = 2 ∨ n = 3 ∨ n = 4 ∨ n = 5 ∨ n = 6 ∨ n = 7 ∨ n = 8 := by omega
  rw [nth_nums _ n (by omega)]
  · rcases this with rfl | rfl | rfl | rfl | rfl | rfl | rfl | rfl | rfl <;> simp [head9]
  · rcases this with rfl | rfl | rfl | rfl | rfl | rfl | rfl | rfl | rfl <;> simp [head9] <;> omega
theorem getv_putv (kd fl id : Int) (b rest : ByteArray) (hr : rightB kd fl id b = true) : getv (putv kd fl id b ++ rest) = (kd, fl, id, b, 9 + (b.size : Int), 0) := by
  obtain ⟨h1, h2, h3, h4, h5, h6, h7⟩ := of_decide_eq_true hr
  have hs : (putv kd fl id b ++ rest).size = 9 + b.size + rest.size := by rw [app_size, putv_size]
  have hn : ∀ n, n < 9 → nth (putv kd fl id b ++ rest) n = nth (strOfNums (head9 kd fl id (b.size : Int))) n := by
    intro n h
    rw [nth_app, if_pos (by rw [putv_size]; omega)]
    unfold putv
    rw [nth_app, if_pos (by rw [nums_size]; exact h)]
  have hh := fun n h => head_nth kd fl id (b.size : Int) h1 h3 h5 (by omega) n h
  have e3 : num3 (putv kd fl id b ++ rest) 0 = (b.size : Int) := by
    unfold num3
    rw [hn 0 (by omega), hn 1 (by omega), hn 2 (by omega), hh 0 (by omega), hh 1 (by omega), hh 2 (by omega)]
    simp only [head9, List.getElem_cons_zero, List.getElem_cons_succ]
    omega
  have e4 : num4 (putv kd fl id b ++ rest) 5 = id := by
    unfold num4
    rw [hn 5 (by omega), hn 6 (by omega), hn 7 (by omega), hn 8 (by omega), hh 5 (by omega), hh 6 (by omega), hh 7 (by omega), hh 8 (by omega)]
    simp only [head9, List.getElem_cons_zero, List.getElem_cons_succ]
    omega
  have e5 : nth (putv kd fl id b ++ rest) 3 = kd := by
    rw [hn 3 (by omega), hh 3 (by omega)]
    simp only [head9, List.getElem_cons_zero, List.getElem_cons_succ]
    omega
  have e6 : nth (putv kd fl id b ++ rest) 4 = fl := by
    rw [hn 4 (by omega), hh 4 (by omega)]
    simp only [head9, List.getElem_cons_zero, List.getElem_cons_succ]
    omega
  have e7 : (putv kd fl id b ++ rest).extract 9 (9 + (b.size : Int)).toNat = b := by
    have ht : (9 + (b.size : Int)).toNat = 9 + b.size := by omega
    rw [ht]
    apply nth_ext
    · rw [cut_size _ _ _ (by omega) (by omega)]; omega
    · intro n hlt
      rw [cut_size _ _ _ (by omega) (by omega)] at hlt
      rw [nth_cut _ _ _ _ (by omega) (by omega), nth_app, if_pos (by rw [putv_size]; omega)]
      unfold putv
      rw [nth_app, if_neg (by rw [nums_size]; show ¬ 9 + n < 9; omega), nums_size]
      congr 1
      show 9 + n - 9 = n
      omega
  unfold getv
  rw [e3, if_neg (by omega), e4, e5, e6, e7]
  rw [Int.emod_eq_of_lt h5 (by omega)]
theorem putv_nil (kd fl id : Int) (b : ByteArray) (hr : rightB kd fl id b = true) : getv (putv kd fl id b) = (kd, fl, id, b, 9 + (b.size : Int), 0) := by
  have := getv_putv kd fl id b (⟨#[]⟩ : ByteArray) hr
  rwa [app_nil _ _ rfl] at this
theorem putv_parts (kd fl id : Int) (b : ByteArray) (hr : rightB kd fl id b = true) : num3 (putv kd fl id b) 0 = (b.size : Int) ∧ nth (putv kd fl id b) 3 = kd ∧ nth (putv kd fl id b) 4 = fl ∧ num4 (putv kd fl id b) 5 % 2147483648 = id ∧ (putv kd fl id b).extract 9 (9 + b.size) = b := by
  have hg := putv_nil kd fl id b hr
  unfold getv at hg
  split at hg
  · have : (2 : Int) = 0 := by simpa using congrArg (fun t => t.2.2.2.2.2) hg
    omega
  · simp only [Prod.mk.injEq] at hg
    obtain ⟨h1, h2, h3, h4, h5, _⟩ := hg
    have h6 : num3 (putv kd fl id b) 0 = (b.size : Int) := by omega
    refine ⟨h6, h1, h2, h3, ?_⟩
    rw [h5] at h4
    have : (9 + (b.size : Int)).toNat = 9 + b.size := by omega
    rwa [this] at h4
theorem cut_short (kd fl id : Int) (b : ByteArray) (hr : rightB kd fl id b = true) (m : Nat) (hm : m < 9 + b.size) : (getv ((putv kd fl id b).extract 0 m)).2.2.2.2.2 = 2 := by
  have hp := (putv_parts kd fl id b hr).1
  have hs := putv_size kd fl id b
  have hc := cut_size (putv kd fl id b) 0 m (by omega) (by omega)
  unfold getv
  have hb : ((putv kd fl id b).extract 0 m).size < 9 ∨ (((putv kd fl id b).extract 0 m).size : Int) < 9 + num3 ((putv kd fl id b).extract 0 m) 0 := by
    by_cases h9 : m < 9
    · left; omega
    · right
      have e : num3 ((putv kd fl id b).extract 0 m) 0 = num3 (putv kd fl id b) 0 := by
        unfold num3
        rw [nth_cut _ _ _ _ (by omega) (by omega), nth_cut _ _ _ _ (by omega) (by omega), nth_cut _ _ _ _ (by omega) (by omega)]
      rw [e, hp]; omega
  rw [if_pos hb]

theorem num_step {r : Int} (c : ByteArray) (acc : Int) (i : Nat) (hi : i < c.size) (hc : c.size ≤ 100) (h0 : 0 ≤ acc) (h1 : acc ≤ 1099511627776) (h : Ev (fun k => frame_num.l0 k c (acc * 256 + nth c i) (c.size : Int) ((i + 1 : Nat) : Int)) r) :
    Ev (fun k => frame_num.l0 k c acc (c.size : Int) (i : Int)) r := by
  have hr := bt_r c (i : Int)
  refine Ev.step (fun k => frame_num.l0.eq_2 ..) (Ev_pos (by omega) (Ev_pos (by omega) (Ev_pos (by omega) ?_)))
  rw [or_byte acc _ h0 h1 hr.1 hr.2, wid (x := (i : Int) + 1) (by omega) (by omega), bt_nth]
  exact h
theorem num_end (c : ByteArray) (acc : Int) (i : Nat) (hi : c.size = i) : Ev (fun k => frame_num.l0 k c acc (c.size : Int) (i : Int)) acc :=
  Ev.step (fun k => frame_num.l0.eq_2 ..) (Ev_neg (by omega) (Ev_some rfl))
theorem num3_ev (b : ByteArray) (h : 3 ≤ b.size) : Ev (fun k => frame_num.f k (b.extract 0 3)) (num3 b 0) := by
  have hs : (b.extract 0 3).size = 3 := cut_size b 0 3 (by omega) h
  have h0 := nth_r b 0
  have h1 := nth_r b 1
  have h2 := nth_r b 2
  unfold frame_num.f
  refine num_step _ 0 0 (by omega) (by omega) (by omega) (by omega) (num_step _ _ 1 (by omega) (by omega) ?_ ?_ (num_step _ _ 2 (by omega) (by omega) ?_ ?_ ?_)) <;> (try rw [nth_cut b 0 3 0 (by omega) h]) <;> (try rw [nth_cut b 0 3 1 (by omega) h]) <;> (try rw [nth_cut b 0 3 2 (by omega) h])
  · simp only [Nat.zero_add]; omega
  · simp only [Nat.zero_add]; omega
  · simp only [Nat.zero_add]; omega
  · simp only [Nat.zero_add]; omega
  · have := num_end (b.extract 0 3) (num3 b 0) 3 hs
    simpa [num3] using this
theorem num4_ev (b : ByteArray) (h : 9 ≤ b.size) : Ev (fun k => frame_num.f k (b.extract 5 9)) (num4 b 5) := by
  have hs : (b.extract 5 9).size = 4 := cut_size b 5 9 (by omega) h
  have h0 := nth_r b 5
  have h1 := nth_r b 6
  have h2 := nth_r b 7
  have h3 := nth_r b 8
  unfold frame_num.f
  refine num_step _ 0 0 (by omega) (by omega) (by omega) (by omega) (num_step _ _ 1 (by omega) (by omega) ?_ ?_ (num_step _ _ 2 (by omega) (by omega) ?_ ?_ (num_step _ _ 3 (by omega) (by omega) ?_ ?_ ?_))) <;> (try rw [nth_cut b 5 9 0 (by omega) h]) <;> (try rw [nth_cut b 5 9 1 (by omega) h]) <;> (try rw [nth_cut b 5 9 2 (by omega) h]) <;> (try rw [nth_cut b 5 9 3 (by omega) h])
  · simp only [Nat.add_zero, Nat.reduceAdd]; omega
  · simp only [Nat.add_zero, Nat.reduceAdd]; omega
  · simp only [Nat.add_zero, Nat.reduceAdd]; omega
  · simp only [Nat.add_zero, Nat.reduceAdd]; omega
  · simp only [Nat.add_zero, Nat.reduceAdd]; omega
  · simp only [Nat.add_zero, Nat.reduceAdd]; omega
  · have := num_end (b.extract 5 9) (num4 b 5) 4 hs
    simpa [num4] using this
theorem get_ev (b : ByteArray) (hb : b.size ≤ 1099511627776) : Ev (fun k => frame_Get.f k b) (getv b) := by
  have hn := num3_r b 0
  have hn4 := num4_r b 5
  have j0 : ∀ c : Bool, c = decide (b.size < 9 ∨ (b.size : Int) < 9 + num3 b 0) → Ev (fun k => frame_Get.j0 k b c) (getv b) := by
    intro c hc
    refine Ev.step (fun k => frame_Get.j0.eq_2 ..) ?_
    unfold getv
    refine Ev_ite (fun h => ?_) fun h => ?_
    · rw [if_pos (of_decide_eq_true (hc.symm.trans h))]; exact Ev_some rfl
    · have hs : ¬ (b.size < 9 ∨ (b.size : Int) < 9 + num3 b 0) := fun hh => h (hc.trans (decide_eq_true hh))
      rw [if_neg hs]
      refine Ev_pos (by omega) (Ev_pos (by omega) (Ev.bind (num3_ev b (by omega)) (Ev_pos (by omega) (Ev_pos (by omega) (Ev_pos (by omega) (Ev_pos (by omega) (Ev.bind (num4_ev b (by omega)) ?_)))))))
      rw [wid (x := 9 + num3 b 0) (by omega) (by omega)]
      refine Ev_pos (by omega) (Ev_pos (by omega) (Ev_some ?_))
      have hm : Go.bits .and .i64 (num4 b 5) 2147483647 = num4 b 5 % 2147483648 := mask63 31 (by omega) _ hn4.1 (by omega)
      have b3 := bt_r b 3
      have b4 := bt_r b 4
      rw [hm, wid (x := bt b 3) (by omega) (by omega), wid (x := bt b 4) (by omega) (by omega), bt_nth, bt_nth]
      rfl
  unfold frame_Get.f
  refine Ev_ite (fun h => ?_) fun h => ?_
  · exact j0 true (decide_eq_true (.inl (by omega))).symm
  · refine Ev_pos (by omega) (Ev_pos (by omega) (Ev.bind (num3_ev b (by omega)) ?_))
    rw [wid (x := 9 + num3 b 0) (by omega) (by omega)]
    exact j0 _ (decide_eq_decide.2 (by omega))

theorem and255 (x : Int) (h : 0 ≤ x) (h' : x < 2 ^ 62) : Go.bits .and .i64 x 255 = x % 256 := mask63 8 (by omega) x h h'
theorem bigr1_ev (n : Int) (h : 0 ≤ n) (h' : n ≤ 1099511627776) : Ev (fun k => bywashref1_Big.f k n 1) (strOfNums [n % 256]) := Ev_from 2 fun k => by
  have e0 := and255 n h (by omega)
  simp [bywashref1_Big.f, bywashref1_Big.l0, wrap64, List.replicate, e0]
theorem bigr3_ev (n : Int) (h : 0 ≤ n) (h' : n ≤ 1099511627776) : Ev (fun k => bywashref1_Big.f k n 3) (strOfNums [n / 65536 % 256, n / 256 % 256, n % 256]) := Ev_from 4 fun k => by
  have e0 := and255 n h (by omega)
  have e1 := and255 (n / 256) (by omega) (by omega)
  have e2 := and255 (n / 256 / 256) (by omega) (by omega)
  have f2 : n / 256 / 256 = n / 65536 := by omega
  simp [bywashref1_Big.f, bywashref1_Big.l0, wrap64, List.replicate, e0, e1, e2]
  rw [f2]
theorem bigr4_ev (n : Int) (h : 0 ≤ n) (h' : n ≤ 1099511627776) : Ev (fun k => bywashref1_Big.f k n 4) (strOfNums [n / 16777216 % 256, n / 65536 % 256, n / 256 % 256, n % 256]) := Ev_from 5 fun k => by
  have e0 := and255 n h (by omega)
  have e1 := and255 (n / 256) (by omega) (by omega)
  have e2 := and255 (n / 256 / 256) (by omega) (by omega)
  have e3 := and255 (n / 256 / 256 / 256) (by omega) (by omega)
  have f2 : n / 256 / 256 = n / 65536 := by omega
  have f3 : n / 256 / 256 / 256 = n / 16777216 := by omega
  simp [bywashref1_Big.f, bywashref1_Big.l0, wrap64, List.replicate, e0, e1, e2, e3]
  rw [f3, f2]
theorem right2_run (kd fl id : Int) (b : ByteArray) : bywashref1_FrameRight.f kd fl id b = some (rightB kd fl id b) := by
  unfold bywashref1_FrameRight.f rightB
  by_cases h1 : kd ≥ 0
  · by_cases h2 : kd ≤ 255
    · by_cases h3 : fl ≥ 0
      · by_cases h4 : fl ≤ 255
        · by_cases h5 : id ≥ 0
          · by_cases h6 : id ≤ 2147483647
            · rw [if_pos h1, if_pos h2, if_pos h3, if_pos h4, if_pos h5, if_pos h6]
              congr 1
              exact decide_eq_decide.2 (by omega)
            · rw [if_pos h1, if_pos h2, if_pos h3, if_pos h4, if_pos h5, if_neg h6, decide_eq_false (by omega)]
          · rw [if_pos h1, if_pos h2, if_pos h3, if_pos h4, if_neg h5, decide_eq_false (by omega)]
        · rw [if_pos h1, if_pos h2, if_pos h3, if_neg h4, decide_eq_false (by omega)]
      · rw [if_pos h1, if_pos h2, if_neg h3, decide_eq_false (by omega)]
    · rw [if_pos h1, if_neg h2, decide_eq_false (by omega)]
  · rw [if_neg h1, decide_eq_false (by omega)]
theorem put3_ev (kd fl id : Int) (b : ByteArray) : Ev (fun k => bywashref1_FramePut.f k kd fl id b) (put kd fl id b) := by
  unfold bywashref1_FramePut.f put
  refine Ev_bind0 (right2_run kd fl id b) (Ev_ite (fun hr => ?_) fun hr => ?_)
  · rw [if_pos hr]
    have h := of_decide_eq_true hr
    refine Ev.bind (bigr3_ev _ (by omega) (by omega)) (Ev.bind (bigr1_ev _ (by omega) (by omega)) (Ev_pos ?_ (Ev.bind (bigr1_ev _ (by omega) (by omega)) (Ev_pos ?_ (Ev.bind (bigr4_ev _ (by omega) (by omega)) (Ev_pos ?_ (Ev_pos ?_ (Ev_some ?_))))))))
    · simp only [nums_size, List.length_cons, List.length_nil]; omega
    · simp only [app_size, nums_size, List.length_cons, List.length_nil]; omega
    · simp only [app_size, nums_size, List.length_cons, List.length_nil]; omega
    · simp only [app_size, nums_size, List.length_cons, List.length_nil]; omega
    · simp only [nums_app]; rfl
  · rw [if_neg hr]; exact Ev_some rfl
theorem put2_ev (kd fl id : Int) (b : ByteArray) (hb : b.size ≤ 1099511627776) : Ev (fun k => bywashref1_FramePut.f k kd fl id b) (put kd fl id b) := put3_ev kd fl id b

theorem putv_parts2 (kd fl id : Int) (b rest : ByteArray) (hr : rightB kd fl id b = true) : num3 (putv kd fl id b ++ rest) 0 = (b.size : Int) := by
  have hp := (putv_parts kd fl id b hr).1
  have hs := putv_size kd fl id b
  rw [← hp]
  unfold num3
  rw [nth_app, nth_app, nth_app, if_pos (by omega), if_pos (by omega), if_pos (by omega)]
def longv (b : ByteArray) : Int := if b.size < 3 then 0 else num3 b 0
theorem long_run (b : ByteArray) (m : Int) (o : Bool) : split_Splitter_long.f b m o = some (longv b, b, m, o) := by
  unfold split_Splitter_long.f longv
  by_cases h : b.size < 3
  · rw [if_pos h, if_pos (by omega)]
  · rw [if_neg h, if_neg (by omega), if_pos (by omega), if_pos (by omega), if_pos (by omega)]
    have h0 := bt_r b 0
    have h1 := bt_r b 1
    have h2 := bt_r b 2
    rw [wid (x := bt b 0) (by omega) (by omega), wid (x := bt b 1) (by omega) (by omega), wid (x := bt b 2) (by omega) (by omega), wid (x := bt b 0 * 65536) (by omega) (by omega), wid (x := bt b 1 * 256) (by omega) (by omega)]
    have e1 : Go.bits .or .i64 (bt b 0 * 65536) (bt b 1 * 256) = bt b 0 * 65536 + bt b 1 * 256 := bits_join .i64 62 (by decide) (fun n h0 h1 => by rw [IntKind.wrap_i64]; omega) 16 (bt b 0 * 65536) (bt b 1 * 256) (by omega) (by omega) (by omega) (by omega) (by omega) (by omega)
    have e2 : Go.bits .or .i64 (bt b 0 * 65536 + bt b 1 * 256) (bt b 2) = bt b 0 * 65536 + bt b 1 * 256 + bt b 2 := bits_join .i64 62 (by decide) (fun n h0 h1 => by rw [IntKind.wrap_i64]; omega) 8 (bt b 0 * 65536 + bt b 1 * 256) (bt b 2) (by omega) (by omega) (by omega) (by omega) (by omega) (by omega)
    rw [e1, e2]
    have e0 : bt b 0 = nth b 0 := bt_nth b 0
    have e3 : bt b 1 = nth b 1 := bt_nth b 1
    have e4 : bt b 2 = nth b 2 := bt_nth b 2
    rw [e0, e3, e4]
    unfold num3
    congr 2
    show nth b 0 * 65536 + nth b 1 * 256 + nth b 2 = (nth b 0 * 256 + nth b 1) * 256 + nth b 2
    omega
/-- What the next frame is, and what is left. -/
def nextv (b : ByteArray) (m : Int) (o : Bool) : Int × Int × Int × ByteArray × Bool × Int × ByteArray × Int × Bool :=
  if o = true ∨ longv b > m then (0, 0, 0, (⟨#[]⟩ : ByteArray), false, 5, (⟨#[]⟩ : ByteArray), m, true)
  else if (getv b).2.2.2.2.2 = 0 then ((getv b).1, (getv b).2.1, (getv b).2.2.1, (getv b).2.2.2.1, true, 0, b.extract (getv b).2.2.2.2.1.toNat b.size, m, o)
  else (0, 0, 0, (⟨#[]⟩ : ByteArray), false, 0, b, m, o)
theorem getv_n (b : ByteArray) : 0 ≤ (getv b).2.2.2.2.1 ∧ (getv b).2.2.2.2.1 ≤ (b.size : Int) := by
  have := num3_r b 0
  unfold getv
  split
  · simp
  · simp only []
    omega
theorem next_ev (b : ByteArray) (m : Int) (o : Bool) (hb : b.size ≤ 1099511627776) : Ev (fun k => split_Splitter_Next.f k b m o) (nextv b m o) := by
  have hn := getv_n b
  have j0 : ∀ c : Bool, c = decide (o = true ∨ longv b > m) → Ev (fun k => split_Splitter_Next.j0 k c b m o) (nextv b m o) := by
    intro c hc
    refine Ev.step (fun k => split_Splitter_Next.j0.eq_2 ..) ?_
    unfold nextv
    refine Ev_ite (fun h => ?_) fun h => ?_
    · rw [if_pos (of_decide_eq_true (hc.symm.trans h))]; exact Ev_some rfl
    · rw [if_neg (fun hh => h (hc.trans (decide_eq_true hh)))]
      refine Ev.bind (get_ev b hb) (Ev_ite (fun h0 => ?_) fun h0 => ?_)
      · rw [if_pos h0]; exact Ev_pos hn.1 (Ev_pos hn.2 (Ev_some rfl))
      · rw [if_neg h0]; exact Ev_some rfl
  unfold split_Splitter_Next.f
  refine Ev_ite (fun h => ?_) fun h => Ev_bind0 (long_run b m o) ?_
  · exact j0 true (decide_eq_true (.inl h)).symm
  · refine j0 _ (decide_eq_decide.2 ⟨fun hh => .inr hh, fun hh => hh.resolve_left h⟩)
theorem next_frame (kd fl id : Int) (b rest : ByteArray) (m : Int) (hr : rightB kd fl id b = true) (hm : (b.size : Int) ≤ m) : nextv (putv kd fl id b ++ rest) m false = (kd, fl, id, b, true, 0, rest, m, false) := by
  have hs := putv_size kd fl id b
  have hl : longv (putv kd fl id b ++ rest) = (b.size : Int) := by
    unfold longv
    rw [if_neg (by rw [app_size]; omega)]
    exact putv_parts2 kd fl id b rest hr
  unfold nextv
  rw [if_neg (by rw [hl]; simp; omega), getv_putv _ _ _ _ _ hr]
  simp only [if_true]
  have ht : (9 + (b.size : Int)).toNat = (putv kd fl id b).size := by omega
  rw [ht, cut_right]
theorem next_one (kd fl id : Int) (b : ByteArray) (m : Int) (hr : rightB kd fl id b = true) (hm : (b.size : Int) ≤ m) : nextv (putv kd fl id b) m false = (kd, fl, id, b, true, 0, (⟨#[]⟩ : ByteArray), m, false) := by
  have := next_frame kd fl id b (⟨#[]⟩ : ByteArray) m hr hm
  rwa [app_nil _ _ rfl] at this
theorem next_short (kd fl id : Int) (b : ByteArray) (m : Int) (hr : rightB kd fl id b = true) (hm : (b.size : Int) ≤ m) (n : Nat) (hn : n < 9 + b.size) : nextv ((putv kd fl id b).extract 0 n) m false = (0, 0, 0, (⟨#[]⟩ : ByteArray), false, 0, (putv kd fl id b).extract 0 n, m, false) := by
  have hs := putv_size kd fl id b
  have hc := cut_size (putv kd fl id b) 0 n (by omega) (by omega)
  have hp := (putv_parts kd fl id b hr).1
  have hl : longv ((putv kd fl id b).extract 0 n) ≤ m := by
    unfold longv
    split
    · omega
    · have : num3 ((putv kd fl id b).extract 0 n) 0 = num3 (putv kd fl id b) 0 := by
        unfold num3
        rw [nth_cut _ _ _ _ (by omega) (by omega), nth_cut _ _ _ _ (by omega) (by omega), nth_cut _ _ _ _ (by omega) (by omega)]
      rw [this, hp]; exact hm
  unfold nextv
  rw [if_neg (by simp; omega), cut_short kd fl id b hr n hn, if_neg (by decide)]
theorem next_nil (m : Int) (hm : 0 ≤ m) : nextv (⟨#[]⟩ : ByteArray) m false = (0, 0, 0, (⟨#[]⟩ : ByteArray), false, 0, (⟨#[]⟩ : ByteArray), m, false) := by
  have hl : longv (⟨#[]⟩ : ByteArray) = 0 := by unfold longv; rw [if_pos (by decide)]
  have hg : getv (⟨#[]⟩ : ByteArray) = (0, 0, 0, ⟨#[]⟩, 0, 2) := by unfold getv; rw [if_pos (.inl (by decide))]
  unfold nextv
  rw [hl, hg, if_neg (by simp; omega), if_neg (by decide)]
theorem new_run (m : Int) (h : 64 ≤ m) (h' : m ≤ 512) : split_New.f m = some ((⟨#[]⟩ : ByteArray), m, false) := by
  unfold split_New.f; rw [if_neg (by omega), if_neg (by omega)]
theorem feed_run (b : ByteArray) (m : Int) (a : ByteArray) (h : b.size + a.size ≤ 9223372036854775807) : split_Splitter_Feed.f b m false a = some ((a.size : Int), b ++ a, m, false) := by
  unfold split_Splitter_Feed.f split_Splitter_Over.f
  simp only [Option.bind_some, Bool.false_eq_true, if_false]
  rw [if_pos h]
theorem put_ok (kd fl id : Int) (b : ByteArray) (hr : rightB kd fl id b = true) : put kd fl id b = (putv kd fl id b, true) := by unfold put; rw [if_pos hr]
theorem put_no (kd fl id : Int) (b : ByteArray) (hr : ¬ rightB kd fl id b = true) : put kd fl id b = (⟨#[]⟩, false) := by unfold put; rw [if_neg hr]
theorem alive_ev : Ev (fun k => bywashlaw8_alive.f k) true := by
  unfold bywashlaw8_alive.f
  have hr : rightB 6 0 0 (⟨#[49, 50, 51, 52, 53, 54, 55, 56]⟩ : ByteArray) = true := by decide
  refine Ev_bind0 (new_run 64 (by omega) (by omega)) (Ev.bind (put2_ev 6 0 0 _ (by decide)) ?_)
  rw [put_ok _ _ _ _ hr]
  have hs : (putv 6 0 0 (⟨#[49, 50, 51, 52, 53, 54, 55, 56]⟩ : ByteArray)).size = 17 := by rw [putv_size]; rfl
  have hn := next_short 6 0 0 _ 64 hr (by decide) 5 (by decide)
  have hn2 := next_one 6 0 0 _ 64 hr (by decide)
  generalize putv 6 0 0 (⟨#[49, 50, 51, 52, 53, 54, 55, 56]⟩ : ByteArray) = P at *
  have c1 := cut_size P 0 5 (by omega) (by omega)
  have c2 := cut_size P 5 P.size (by omega) (by omega)
  have hnil : (⟨#[]⟩ : ByteArray).size = 0 := rfl
  refine Ev_pos (by omega) (Ev_pos (by simp only [hs]; omega) (Ev_bind0 (feed_run _ _ _ (by (try dsimp only); omega)) (Ev_pos (by simp only [c1]; rfl) ?_)))
  simp only [nil_app]
  refine Ev.bind (next_ev _ _ _ (by omega)) ?_
  rw [hn]
  refine Ev_bind0 (feed_run _ _ _ (by (try dsimp only); omega)) ?_
  simp only [cut_join P 5 (by omega)]
  refine Ev.bind (next_ev _ _ _ (by omega)) ?_
  rw [hn2]
  refine Ev_neg (by simp) (Ev_pos (by trivial) (Ev_pos (by trivial) (Ev_pos (by trivial) (Ev_pos ?_ (Ev_bind0 rfl (Ev_pos (by simp [hnil]) (Ev_bind0 rfl (Ev_some rfl))))))))
  rw [tl_eq]

end Go.Proofs.Ytndchendimbfnaa.Pure
