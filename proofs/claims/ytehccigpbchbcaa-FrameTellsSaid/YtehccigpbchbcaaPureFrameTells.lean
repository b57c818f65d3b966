/- Every frame, whether it may be, as bytes, and back; every bytes; its body without padding; every kind's name. Conditions: those of the statement itself. -/
import Derived.Test.YtehccigpbchbcaaPFrameTellsx0
import Derived.Test.YtehccigpbchbcaaPFrameTellsx1
import Derived.Test.YtehccigpbchbcaaPFrameTellsx2
import Derived.Test.YtehccigpbchbcaaPFrameTellsx3
import Derived.Test.YtehccigpbchbcaaPFrameTellsx4
import Derived.Test.YtehccigpbchbcaaPFrameTellsx5
import Derived.Test.YtehccigpbchbcaaPFrameTellsx6
import Derived.Test.YtehccigpbchbcaaPFrameTellsx7
import Derived.Test.YtehccigpbchbcaaStaFrameTells
import Derived.Test.YtehccigpbchbcaaAid
namespace Go.Proofs.Ytehccigpbchbcaa.Pure
open Go.RowKit Go.Proofs.YtehccigpbchbcaaW.PrintWords Go.Proofs.YtehccigpbchbcaaW.PrintLast Go.Proofs.YtehccigpbchbcaaW.PrintMore Go.Proofs.Ytehccigpbchbcaa.Aid Go.Proofs.Ytehccigpbchbcaa.PFrameTells Go.Proofs.Ytehccigpbchbcaa.StaFrameTells
set_option linter.unusedVariables false
set_option linter.unusedSimpArgs false

theorem tl_eq (a : ByteArray) : a.toList = a.data.toList := ByteArray.toList_eq a
theorem ba_ext {a b : ByteArray} (h : a.data = b.data) : a = b := by cases a; cases b; cases h; rfl
theorem ba_of_list {a b : ByteArray} (h : a.toList = b.toList) : a = b := by
  rw [tl_eq, tl_eq] at h
  exact ba_ext (Array.toList_inj.1 h)
theorem tl_nil (b : ByteArray) : b.toList = ([] : List UInt8) ↔ b.size = 0 := by
  rw [tl_eq]
  constructor
  · intro h
    have := congrArg List.length h
    rw [Array.length_toList] at this
    exact this
  · intro h
    have : b.data.toList.length = 0 := by rw [Array.length_toList]; exact h
    exact List.length_eq_zero_iff.1 this
theorem nil_of_size {c : ByteArray} (h : c.size = 0) : c = ⟨#[]⟩ := ba_of_list (by rw [(tl_nil c).2 h, (tl_nil _).2 rfl])
theorem bt_r (s : ByteArray) (i : Int) : 0 ≤ bt s i ∧ bt s i ≤ 255 := bt_range s i
def nth (s : ByteArray) (n : Nat) : Int := ((s.data[n]?).map fun x => (x.toNat : Int)).getD 0
theorem bt_nth (s : ByteArray) (i : Int) : bt s i = nth s i.toNat := by
  unfold bt nth
  by_cases h : i.toNat < s.size
  · rw [dif_pos h]
    have h' : i.toNat < s.data.size := h
    rw [Array.getElem?_eq_getElem h']
    rfl
  · rw [dif_neg h]
    have h' : s.data.size ≤ i.toNat := Nat.le_of_not_lt h
    rw [Array.getElem?_eq_none h']
    rfl
theorem nth_app (a b : ByteArray) (n : Nat) : nth (a ++ b) n = if n < a.size then nth a n else nth b (n - a.size) := by
  unfold nth
  rw [ByteArray.data_append]
  have hs : a.size = a.data.size := rfl
  by_cases h : n < a.size
  · rw [if_pos h, Array.getElem?_append_left (by omega)]
  · rw [if_neg h, Array.getElem?_append_right (by omega), ← hs]
theorem nth_cut (b : ByteArray) (lo hi n : Nat) (h : lo + n < hi) (hh : hi ≤ b.size) : nth (b.extract lo hi) n = nth b (lo + n) := by
  unfold nth
  rw [ByteArray.data_extract, Array.getElem?_extract, if_pos]
  have hs : b.size = b.data.size := rfl
  rw [← hs]; omega
theorem nth_nums (l : List Int) (n : Nat) (h : n < l.length) (h0 : 0 ≤ l[n]) : nth (strOfNums l) n = l[n] % 256 := by
  unfold nth strOfNums
  simp only [List.getElem?_toArray, List.getElem?_map, List.getElem?_eq_getElem h, Option.map_some, Option.getD_some, UInt8.toNat_ofNat']
  omega
theorem nth_ext {a b : ByteArray} (hs : a.size = b.size) (h : ∀ n, n < a.size → nth a n = nth b n) : a = b := by
  apply ba_ext
  apply Array.ext hs
  intro i h1 h2
  have := h i h1
  unfold nth at this
  rw [Array.getElem?_eq_getElem h1, Array.getElem?_eq_getElem h2] at this
  simp only [Option.map_some, Option.getD_some] at this
  exact UInt8.toNat_inj.1 (by omega)
theorem app_size (a b : ByteArray) : (a ++ b).size = a.size + b.size := ByteArray.size_append
theorem app_assoc (a b c : ByteArray) : a ++ b ++ c = a ++ (b ++ c) := by
  apply ba_ext
  simp only [ByteArray.data_append, Array.append_assoc]
theorem app_nil (a : ByteArray) (b : ByteArray) (h : b.size = 0) : a ++ b = a := by
  apply ba_ext
  rw [ByteArray.data_append]
  have : b.data = #[] := Array.eq_empty_of_size_eq_zero h
  rw [this, Array.append_empty]
theorem nil_app (b : ByteArray) : (⟨#[]⟩ : ByteArray) ++ b = b := by
  apply ba_ext
  rw [ByteArray.data_append]
  exact Array.empty_append
theorem cut_size (b : ByteArray) (lo hi : Nat) (h : lo ≤ hi) (hh : hi ≤ b.size) : (b.extract lo hi).size = hi - lo := by rw [ByteArray.size_extract]; omega
theorem cut_all (b : ByteArray) : b.extract 0 b.size = b := by
  apply ba_ext
  rw [ByteArray.data_extract]
  exact Array.extract_size
theorem cut_join (b : ByteArray) (m : Nat) (h : m ≤ b.size) : b.extract 0 m ++ b.extract m b.size = b := by
  apply ba_ext
  have hs : b.size = b.data.size := rfl
  rw [ByteArray.data_append, ByteArray.data_extract, ByteArray.data_extract, Array.extract_append_extract]
  have e1 : min 0 m = 0 := by omega
  have e2 : max m b.size = b.data.size := by rw [← hs]; omega
  rw [e1, e2, Array.extract_size]
theorem cut_left (a b : ByteArray) : (a ++ b).extract 0 a.size = a := by
  apply nth_ext
  · rw [cut_size _ _ _ (Nat.zero_le _) (by rw [app_size]; omega)]; omega
  · intro n hn
    rw [cut_size _ _ _ (Nat.zero_le _) (by rw [app_size]; omega)] at hn
    rw [nth_cut _ _ _ _ (by omega) (by rw [app_size]; omega), nth_app, if_pos (by omega), Nat.zero_add]
theorem cut_right (a b : ByteArray) : (a ++ b).extract a.size (a ++ b).size = b := by
  have hs := app_size a b
  apply nth_ext
  · rw [cut_size _ _ _ (by omega) (Nat.le_refl _)]; omega
  · intro n hn
    rw [cut_size _ _ _ (by omega) (Nat.le_refl _)] at hn
    rw [nth_cut _ _ _ _ (by omega) (Nat.le_refl _), nth_app, if_neg (by omega), Nat.add_sub_cancel_left]
theorem mask63 (i : Nat) (hi : i ≤ 62) (x : Int) (h0 : 0 ≤ x) (h1 : x < 2 ^ 62) : Go.bits .and .i64 x (2 ^ i - 1) = x % 2 ^ i :=
  bits_mask .i64 62 (by decide) (fun n h0 h1 => by rw [IntKind.wrap_i64]; omega) i hi x h0 h1
theorem or_byte (x y : Int) (hx : 0 ≤ x) (hx' : x ≤ 1099511627776) (hy : 0 ≤ y) (hy' : y ≤ 255) : Go.bits .or .i64 (wrap64 (x * 256)) (wrap64 y) = x * 256 + y := by
  rw [wid (by omega) (by omega), wid (by omega) (by omega)]
  exact bits_join .i64 62 (by decide) (fun n h0 h1 => by rw [IntKind.wrap_i64]; omega) 8 (x * 256) y (by omega) (by omega) (by omega) hy (by omega) (by omega)

/-! Numbers as bytes. -/
theorem big1_ev (n : Int) (h : 0 ≤ n) : Ev (fun k => frame_big.f k n 1) (strOfNums [n % 256]) := Ev_from 2 fun k => by
  simp [frame_big.f, frame_big.l0, wrap64, shr]
theorem big3_ev (n : Int) (h : 0 ≤ n) : Ev (fun k => frame_big.f k n 3) (strOfNums [n / 65536 % 256, n / 256 % 256, n % 256]) := Ev_from 4 fun k => by
  simp [frame_big.f, frame_big.l0, wrap64, shr, IntKind.bits]
theorem big4_ev (n : Int) (h : 0 ≤ n) : Ev (fun k => frame_big.f k n 4) (strOfNums [n / 16777216 % 256, n / 65536 % 256, n / 256 % 256, n % 256]) := Ev_from 5 fun k => by
  simp [frame_big.f, frame_big.l0, wrap64, shr, IntKind.bits]
def head9 (kd fl id len : Int) : List Int := [len / 65536 % 256, len / 256 % 256, len % 256, kd % 256, fl % 256, id / 16777216 % 256, id / 65536 % 256, id / 256 % 256, id % 256]
/-- A frame as bytes. -/
def putv (kd fl id : Int) (b : ByteArray) : ByteArray := strOfNums (head9 kd fl id (b.size : Int)) ++ b
theorem nums_app (a b : List Int) : strOfNums a ++ strOfNums b = strOfNums (a ++ b) := by
  apply ba_ext
  rw [ByteArray.data_append]
  simp [strOfNums]
theorem nums_size (l : List Int) : (strOfNums l).size = l.length := strOfNums_size l
theorem putv_size (kd fl id : Int) (b : ByteArray) : (putv kd fl id b).size = 9 + b.size := by
  unfold putv; rw [app_size, nums_size]; rfl
def rightB (kd fl id : Int) (b : ByteArray) : Bool := decide (0 ≤ kd ∧ kd ≤ 255 ∧ 0 ≤ fl ∧ fl ≤ 255 ∧ 0 ≤ id ∧ id ≤ 2147483647 ∧ b.size ≤ 16777215)
theorem right_run (kd fl id : Int) (b : ByteArray) : frame_Right.f kd fl id b = some (rightB kd fl id b) := by
  unfold frame_Right.f rightB
  by_cases h1 : kd ≥ 0
  · by_cases h2 : kd ≤ 255
    · by_cases h3 : fl ≥ 0
      · by_cases h4 : fl ≤ 255
        · by_cases h5 : id ≥ 0
          · by_cases h6 : id ≤ 2147483647
            · rw [if_pos h1, if_pos h2, if_pos h3, if_pos h4, if_pos h5, if_pos h6]
              congr 1
              exact decide_eq_decide.2 (by omega)
            · rw [if_pos h1, if_pos h2, if_pos h3, if_pos h4, if_pos h5, if_neg h6, decide_eq_false (by omega)]
          · rw [if_pos h1, if_pos h2, if_pos h3, if_pos h4, if_neg h5, decide_eq_false (by omega)]
        · rw [if_pos h1, if_pos h2, if_pos h3, if_neg h4, decide_eq_false (by omega)]
      · rw [if_pos h1, if_pos h2, if_neg h3, decide_eq_false (by omega)]
    · rw [if_pos h1, if_neg h2, decide_eq_false (by omega)]
  · rw [if_neg h1, decide_eq_false (by omega)]
def put (kd fl id : Int) (b : ByteArray) : ByteArray × Bool := if rightB kd fl id b = true then (putv kd fl id b, true) else (⟨#[]⟩, false)
theorem put_ev (kd fl id : Int) (b : ByteArray) (hb : b.size ≤ 1099511627776) : Ev (fun k => frame_Put.f k kd fl id b) (put kd fl id b) := by
  unfold frame_Put.f put
  refine Ev_bind0 (right_run kd fl id b) (Ev_ite (fun hr => ?_) fun hr => ?_)
  · rw [if_pos hr]
    have h := of_decide_eq_true hr
    refine Ev.bind (big3_ev _ (by omega)) (Ev.bind (big1_ev _ (by omega)) (Ev_pos ?_ (Ev.bind (big1_ev _ (by omega)) (Ev_pos ?_ (Ev.bind (big4_ev _ (by omega)) (Ev_pos ?_ (Ev_pos ?_ (Ev_some ?_))))))))
    · simp only [nums_size, List.length_cons, List.length_nil]; omega
    · simp only [app_size, nums_size, List.length_cons, List.length_nil]; omega
    · simp only [app_size, nums_size, List.length_cons, List.length_nil]; omega
    · simp only [app_size, nums_size, List.length_cons, List.length_nil]; omega
    · simp only [nums_app]; rfl
  · rw [if_neg hr]; exact Ev_some rfl
def num3 (b : ByteArray) (i : Nat) : Int := (nth b i * 256 + nth b (i + 1)) * 256 + nth b (i + 2)
def num4 (b : ByteArray) (i : Nat) : Int := ((nth b i * 256 + nth b (i + 1)) * 256 + nth b (i + 2)) * 256 + nth b (i + 3)
theorem nth_r (b : ByteArray) (n : Nat) : 0 ≤ nth b n ∧ nth b n ≤ 255 := by
  have := bt_r b (n : Int)
  rw [bt_nth] at this
  simpa using this
theorem num_step {r : Int} (c : ByteArray) (acc : Int) (i : Nat) (hi : i < c.size) (hc : c.size ≤ 100) (h0 : 0 ≤ acc) (h1 : acc ≤ 1099511627776) (h : Ev (fun k => frame_num.l0 k c (acc * 256 + nth c i) (c.size : Int) ((i + 1 : Nat) : Int)) r) :
    Ev (fun k => frame_num.l0 k c acc (c.size : Int) (i : Int)) r := by
  have hr := bt_r c (i : Int)
  refine Ev.step (fun k => frame_num.l0.eq_2 ..) (Ev_pos (by omega) (Ev_pos (by omega) (Ev_pos (by omega) ?_)))
  rw [or_byte acc _ h0 h1 hr.1 hr.2, wid (x := (i : Int) + 1) (by omega) (by omega), bt_nth]
  exact h
theorem num_end (c : ByteArray) (acc : Int) (i : Nat) (hi : c.size = i) : Ev (fun k => frame_num.l0 k c acc (c.size : Int) (i : Int)) acc :=
  Ev.step (fun k => frame_num.l0.eq_2 ..) (Ev_neg (by omega) (Ev_some rfl))
theorem num3_ev (b : ByteArray) (h : 3 ≤ b.size) : Ev (fun k => frame_num.f k (b.extract 0 3)) (num3 b 0) := by
  have hs : (b.extract 0 3).size = 3 := cut_size b 0 3 (by omega) h
  have h0 := nth_r b 0
  have h1 := nth_r b 1
  have h2 := nth_r b 2
  unfold frame_num.f
  refine num_step _ 0 0 (by omega) (by omega) (by omega) (by omega) (num_step _ _ 1 (by omega) (by omega) ?_ ?_ (num_step _ _ 2 (by omega) (by omega) ?_ ?_ ?_)) <;> (try rw [nth_cut b 0 3 0 (by omega) h]) <;> (try rw [nth_cut b 0 3 1 (by omega) h]) <;> (try rw [nth_cut b 0 3 2 (by omega) h])
  · simp only [Nat.zero_add]; omega
  · simp only [Nat.zero_add]; omega
  · simp only [Nat.zero_add]; omega
  · simp only [Nat.zero_add]; omega
  · have := num_end (b.extract 0 3) (num3 b 0) 3 hs
    simpa [num3] using this
theorem num4_ev (b : ByteArray) (h : 9 ≤ b.size) : Ev (fun k => frame_num.f k (b.extract 5 9)) (num4 b 5) := by
  have hs : (b.extract 5 9).size = 4 := cut_size b 5 9 (by omega) h
  have h0 := nth_r b 5
  have h1 := nth_r b 6
  have h2 := nth_r b 7
  have h3 := nth_r b 8
  unfold frame_num.f
  refine num_step _ 0 0 (by omega) (by omega) (by omega) (by omega) (num_step _ _ 1 (by omega) (by omega) ?_ ?_ (num_step _ _ 2 (by omega) (by omega) ?_ ?_ (num_step _ _ 3 (by omega) (by omega) ?_ ?_ ?_))) <;> (try rw [nth_cut b 5 9 0 (by omega) h]) <;> (try rw [nth_cut b 5 9 1 (by omega) h]) <;> (try rw [nth_cut b 5 9 2 (by omega) h]) <;> (try rw [nth_cut b 5 9 3 (by omega) h])
  · simp only [Nat.add_zero, Nat.reduceAdd]; omega
  · simp only [Nat.add_zero, Nat.reduceAdd]; omega
  · simp only [Nat.add_zero, Nat.reduceAdd]; omega
  · simp only [Nat.add_zero, Nat.reduceAdd]; omega
  · simp only [Nat.add_zero, Nat.reduceAdd]; omega
  · simp only [Nat.add_zero, Nat.reduceAdd]; omega
  · have := num_end (b.extract 5 9) (num4 b 5) 4 hs
    simpa [num4] using this
/-- The first frame of bytes. -/
def getv (b : ByteArray) : Int × Int × Int × ByteArray × Int × Int :=
  if b.size < 9 ∨ (b.size : Int) < 9 + num3 b 0 then (0, 0, 0, ⟨#[]⟩, 0, 2) else (nth b 3, nth b 4, num4 b 5 % 2147483648, b.extract 9 (9 + num3 b 0).toNat, 9 + num3 b 0, 0)
theorem num3_r (b : ByteArray) (i : Nat) : 0 ≤ num3 b i ∧ num3 b i ≤ 16777215 := by
  have h0 := nth_r b i
  have h1 := nth_r b (i + 1)
  have h2 := nth_r b (i + 2)
  unfold num3; omega
theorem num4_r (b : ByteArray) (i : Nat) : 0 ≤ num4 b i ∧ num4 b i ≤ 4294967295 := by
  have h0 := nth_r b i
  have h1 := nth_r b (i + 1)
  have h2 := nth_r b (i + 2)
  have h3 := nth_r b (i + 3)
  unfold num4; omega
theorem get_ev (b : ByteArray) (hb : b.size ≤ 1099511627776) : Ev (fun k => frame_Get.f k b) (getv b) := by
  have hn := num3_r b 0
  have hn4 := num4_r b 5
  have j0 : ∀ c : Bool, c = decide (b.size < 9 ∨ (b.size : Int) < 9 + num3 b 0) → Ev (fun k => frame_Get.j0 k b c) (getv b) := by
    intro c hc
    refine Ev.step (fun k => frame_Get.j0.eq_2 ..) ?_
    unfold getv
    refine Ev_ite (fun h => ?_) fun h => ?_
    · rw [if_pos (of_decide_eq_true (hc.symm.trans h))]; exact Ev_some rfl
    · have hs : ¬ (b.size < 9 ∨ (b.size : Int) < 9 + num3 b 0) := fun hh => h (hc.trans (decide_eq_true hh))
      rw [if_neg hs]
      refine Ev_pos (by omega) (Ev_pos (by omega) (Ev.bind (num3_ev b (by omega)) (Ev_pos (by omega) (Ev_pos (by omega) (Ev_pos (by omega) (Ev_pos (by omega) (Ev.bind (num4_ev b (by omega)) ?_)))))))
      rw [wid (x := 9 + num3 b 0) (by omega) (by omega)]
      refine Ev_pos (by omega) (Ev_pos (by omega) (Ev_some ?_))
      have hm : Go.bits .and .i64 (num4 b 5) 2147483647 = num4 b 5 % 2147483648 := mask63 31 (by omega) _ hn4.1 (by omega)
      have b3 := bt_r b 3
      have b4 := bt_r b 4
      rw [hm, wid (x := bt b 3) (by omega) (by omega), wid (x := bt b 4) (by omega) (by omega), bt_nth, bt_nth]
      rfl
  unfold frame_Get.f
  refine Ev_ite (fun h => ?_) fun h => ?_
  · exact j0 true (decide_eq_true (.inl (by omega))).symm
  · refine Ev_pos (by omega) (Ev_pos (by omega) (Ev.bind (num3_ev b (by omega)) ?_))
    rw [wid (x := 9 + num3 b 0) (by omega) (by omega)]
    exact j0 _ (decide_eq_decide.2 (by omega))
theorem head_nth (kd fl id len : Int) (hk : 0 ≤ kd) (hf : 0 ≤ fl) (hi : 0 ≤ id) (hl : 0 ≤ len) (n : Nat) (hn : n < 9) : nth (strOfNums (head9 kd fl id len)) n = (head9 kd fl id len)[n]'(by simpa [head9] using hn) := by
  have hlen : (head9 kd fl id len).length = 9 := rfl
  have : n = 0 ∨ n = 1 ∨ n = 2 ∨ n = 3 ∨ n = 4 ∨ n = 5 ∨ n = 6 ∨ n = 7 ∨ n = 8 := by omega
  rw [nth_nums _ n (by omega)]
  · rcases this with rfl | rfl | rfl | rfl | rfl | rfl | rfl | rfl | rfl <;> simp [head9]
  · rcases this with rfl | rfl | rfl | rfl | rfl | rfl | rfl | rfl | rfl <;> simp [head9] <;> omega
theorem getv_putv (kd fl id : Int) (b rest : ByteArray) (hr : rightB kd fl id b = true) : getv (putv kd fl id b ++ rest) = (kd, fl, id, b, 9 + (b.size : Int), 0) := by
  obtain ⟨h1, h2, h3, h4, h5, h6, h7⟩ := of_decide_eq_true hr
  have hs : (putv kd fl id b ++ rest).size = 9 + b.size + rest.size := by rw [app_size, putv_size]
  have hn : ∀ n, n < 9 → nth (putv kd fl id b ++ rest) n = nth (strOfNums (head9 kd fl id (b.size : Int))) n := by
    intro n h
    rw [nth_app, if_pos (by rw [putv_size]; omega)]
    unfold putv
    rw [nth_app, if_pos (by rw [nums_size]; exact h)]
  have hh := fun n h => head_nth kd fl id (b.size : Int) h1 h3 h5 (by omega) n h
  have e3 : num3 (putv kd fl id b ++ rest) 0 = (b.size : Int) := by
    unfold num3
    rw [hn 0 (by omega), hn 1 (by omega), hn 2 (by omega), hh 0 (by omega), hh 1 (by omega), hh 2 (by omega)]
    simp only [head9, List.getElem_cons_zero, List.getElem_cons_succ]
    omega
  have e4 : num4 (putv kd fl id b ++ rest) 5 = id := by
    unfold num4
    rw [hn 5 (by omega), hn 6 (by omega), hn 7 (by omega), hn 8 (by omega), hh 5 (by omega), hh 6 (by omega), hh 7 (by omega), hh 8 (by omega)]
    simp only [head9, List.getElem_cons_zero, List.getElem_cons_succ]
    omega
  have e5 : nth (putv kd fl id b ++ rest) 3 = kd := by
    rw [hn 3 (by omega), hh 3 (by omega)]
    simp only [head9, List.getElem_cons_zero, List.getElem_cons_succ]
    omega
  have e6 : nth (putv kd fl id b ++ rest) 4 = fl := by
    rw [hn 4 (by omega), hh 4 (by omega)]
    simp only [head9, List.getElem_cons_zero, List.getElem_cons_succ]
    omega
  have e7 : (putv kd fl id b ++ rest).extract 9 (9 + (b.size : Int)).toNat = b := by
    have ht : (9 + (b.size : Int)).toNat = 9 + b.size := by omega
    rw [ht]
    apply nth_ext
    · rw [cut_size _ _ _ (by omega) (by omega)]; omega
    · intro n hlt
      rw [cut_size _ _ _ (by omega) (by omega)] at hlt
      rw [nth_cut _ _ _ _ (by omega) (by omega), nth_app, if_pos (by rw [putv_size]; omega)]
      unfold putv
      rw [nth_app, if_neg (by rw [nums_size]; show ¬ 9 + n < 9; omega), nums_size]
      congr 1
      show 9 + n - 9 = n
      omega
  unfold getv
  rw [e3, if_neg (by omega), e4, e5, e6, e7]
  rw [Int.emod_eq_of_lt h5 (by omega)]

def bare (fl : Int) (b : ByteArray) : ByteArray × Bool :=
  if Go.bits .and .i64 fl 8 = 0 then (b, true) else if b.size = 0 then (⟨#[]⟩, false) else if bt b 0 > (b.size : Int) - 1 then (⟨#[]⟩, false) else (b.extract 1 ((b.size : Int) - bt b 0).toNat, true)
theorem bare_run (kd fl id : Int) (b : ByteArray) (hb : b.size ≤ 4611686018427387904) : frame_bare.f kd fl id b = some (bare fl b) := by
  have hr := bt_r b 0
  unfold frame_bare.f bare
  by_cases h1 : Go.bits .and .i64 fl 8 = 0
  · rw [if_pos h1, if_pos h1]
  · rw [if_neg h1, if_neg h1]
    by_cases h2 : b.size = 0
    · rw [if_pos ((tl_nil b).2 h2), if_pos h2]
    · rw [if_neg (fun h => h2 ((tl_nil b).1 h)), if_neg h2, if_pos (by omega), wid (x := bt b 0) (by omega) (by omega), wid (x := (b.size : Int) - 1) (by omega) (by omega), wid (x := (b.size : Int) - bt b 0) (by omega) (by omega)]
      by_cases h3 : bt b 0 > (b.size : Int) - 1
      · rw [if_pos h3, if_pos h3]
      · rw [if_neg h3, if_neg h3, if_pos (by omega), if_pos (by omega)]
def unweigh (w : Bool) (body b : ByteArray) : ByteArray × Int × Int :=
  if w = true then (if (body.size : Int) < 5 then (⟨#[]⟩, 0, 5) else (body.extract 5 body.size, (b.size : Int) - ((body.extract 5 body.size).size : Int), 0)) else (body, (b.size : Int) - (body.size : Int), 0)
def strip (kd fl : Int) (b : ByteArray) : ByteArray × Int × Int :=
  if kd = 0 ∨ kd = 1 then (if (bare fl b).2 = true then unweigh (decide (kd = 1) && (Go.bits .and .i64 fl 32 != 0)) (bare fl b).1 b else (⟨#[]⟩, 0, 11)) else (b, 0, 0)
theorem bare_size (fl : Int) (b : ByteArray) : (bare fl b).1.size ≤ b.size := by
  unfold bare
  split
  · exact Nat.le_refl _
  · split
    · exact Nat.zero_le _
    · split
      · exact Nat.zero_le _
      · simp [ByteArray.size_extract]; omega
theorem strip_ev (kd fl id : Int) (b : ByteArray) (hb : b.size ≤ 4611686018427387904) : Ev (fun k => frame_Strip.f k kd fl id b) (strip kd fl b) := by
  have hs := bare_size fl b
  have j1 : ∀ w c : Bool, c = (w && decide (((bare fl b).1.size : Int) < 5)) → Ev (fun k => frame_Strip.j1 k w (bare fl b).1 c kd fl id b) (unweigh w (bare fl b).1 b) := by
    intro w c hc
    refine Ev.step (fun k => frame_Strip.j1.eq_2 ..) ?_
    cases w with
    | true =>
      simp only [Bool.true_and] at hc
      by_cases h5 : ((bare fl b).1.size : Int) < 5
      · exact Ev_pos (by rw [hc]; exact decide_eq_true h5) (Ev_some (by simp [unweigh, h5]))
      · refine Ev_neg (by rw [hc]; simpa using h5) (Ev_pos rfl (Ev_pos (by omega) (Ev_some ?_)))
        have he : ((bare fl b).1.extract 5 (bare fl b).1.size).size ≤ (bare fl b).1.size := by simp [ByteArray.size_extract]
        rw [wid (by omega) (by omega)]
        simp [unweigh, h5]
    | false =>
      simp only [Bool.false_and] at hc
      refine Ev_neg (by rw [hc]; simp) (Ev_neg (by simp) (Ev_some ?_))
      rw [wid (by omega) (by omega)]
      simp [unweigh]
  have j0 : ∀ w : Bool, (kd = 0 ∨ kd = 1) → w = (decide (kd = 1) && (Go.bits .and .i64 fl 32 != 0)) → Ev (fun k => frame_Strip.j0 k w kd fl id b) (strip kd fl b) := by
    intro w hk hw
    refine Ev.step (fun k => frame_Strip.j0.eq_2 ..) (Ev_bind0 (bare_run kd fl id b hb) ?_)
    unfold strip
    rw [if_pos hk, ← hw]
    by_cases h2 : (bare fl b).2 = true
    · rw [if_pos h2]
      refine Ev_pos h2 ?_
      cases w with
      | true => exact Ev_pos rfl (j1 true _ (by simp))
      | false => exact Ev_neg (by simp) (j1 false _ (by simp))
    · rw [if_neg h2]
      exact Ev_neg h2 (Ev_some rfl)
  unfold frame_Strip.f
  by_cases h1 : kd = 1
  · exact Ev_pos h1 (j0 _ (.inr h1) (by simp [h1]))
  · refine Ev_neg h1 ?_
    by_cases h0 : kd = 0
    · exact Ev_pos h0 (j0 _ (.inl h0) (by simp [h1]))
    · refine Ev_neg h0 (Ev_some ?_)
      unfold strip
      rw [if_neg (by omega)]
theorem strip_err (kd fl : Int) (b : ByteArray) : (strip kd fl b).2.2 = 0 ∨ (strip kd fl b).2.2 = 5 ∨ (strip kd fl b).2.2 = 11 := by
  unfold strip
  split
  · split
    · unfold unweigh
      split
      · split <;> simp
      · simp
    · simp
  · simp

theorem and88 : ¬ Go.bits .and .i64 8 8 = 0 := by decide
theorem nth_pad (n : Int) (h : 0 ≤ n) (h' : n ≤ 255) (b : ByteArray) : nth (strOfNums [n % 256] ++ b) 0 = n := by
  rw [nth_app, nums_size, if_pos (by simp), nth_nums _ _ (by simp) (by simp; omega)]
  simp; omega
theorem bt_pad (n : Int) (h : 0 ≤ n) (h' : n ≤ 255) (b : ByteArray) : bt (strOfNums [n % 256] ++ b) 0 = n := by
  rw [bt_nth]; exact nth_pad n h h' b
theorem pad_size (n : Int) (b : ByteArray) : (strOfNums [n % 256] ++ b).size = 1 + b.size := by rw [app_size, nums_size]; rfl
theorem bare_pad (fl n : Int) (h : 0 ≤ n) (h' : n ≤ 255) (b z : ByteArray) (hz : (z.size : Int) = n) (h8 : ¬ Go.bits .and .i64 fl 8 = 0) : bare fl (strOfNums [n % 256] ++ b ++ z) = (b, true) := by
  have hs : (strOfNums [n % 256] ++ b ++ z).size = 1 + b.size + z.size := by rw [app_size, pad_size]
  have hb : bt (strOfNums [n % 256] ++ b ++ z) 0 = n := by rw [app_assoc]; exact bt_pad n h h' _
  unfold bare
  rw [if_neg h8, if_neg (by omega), hb, if_neg (by omega)]
  have ht : (((strOfNums [n % 256] ++ b ++ z).size : Int) - n).toNat = 1 + b.size := by omega
  rw [ht]
  have : (strOfNums [n % 256] ++ b ++ z).extract 1 (1 + b.size) = b := by
    apply nth_ext
    · rw [cut_size _ _ _ (by omega) (by omega)]; omega
    · intro i hi
      rw [cut_size _ _ _ (by omega) (by omega)] at hi
      rw [nth_cut _ _ _ _ (by omega) (by omega), nth_app, if_pos (by rw [pad_size]; omega), nth_app, nums_size, if_neg (by simp)]
      congr 1
      show 1 + i - 1 = i
      omega
  rw [this]
theorem strip_alive : strip 0 8 (⟨#[1, 97, 98]⟩ : ByteArray) = ((⟨#[97]⟩ : ByteArray), 2, 0) := by
  have e : (⟨#[1, 97, 98]⟩ : ByteArray) = strOfNums [(1 : Int) % 256] ++ (⟨#[97]⟩ : ByteArray) ++ (⟨#[98]⟩ : ByteArray) := by
    apply ba_ext; rw [ByteArray.data_append, ByteArray.data_append]; rfl
  unfold strip
  rw [if_pos (.inl rfl), e, bare_pad 8 1 (by omega) (by omega) _ _ rfl and88]
  simp only [if_true]
  unfold unweigh
  rw [if_neg (by simp), ← e]
  rfl
theorem alive_ev : Ev (fun k => bywashlaw7_alive.f k) true := by
  unfold bywashlaw7_alive.f
  refine Ev.bind (put_ev 6 0 0 _ (by decide)) ?_
  have ep : put 6 0 0 (⟨#[49, 50, 51, 52, 53, 54, 55, 56]⟩ : ByteArray) = (putv 6 0 0 (⟨#[49, 50, 51, 52, 53, 54, 55, 56]⟩ : ByteArray), true) := by unfold put; rw [if_pos (by decide)]
  rw [ep]
  have hsz : (putv 6 0 0 (⟨#[49, 50, 51, 52, 53, 54, 55, 56]⟩ : ByteArray)).size = 17 := by rw [putv_size]; rfl
  refine Ev_pos (by simp only [hsz]; omega) (Ev.bind (get_ev _ (by rw [app_size]; simp only [hsz]; decide)) (Ev.bind (strip_ev 0 8 0 _ (by decide)) ?_))
  simp only []
  rw [getv_putv _ _ _ _ _ (by decide), strip_alive]
  refine Ev_pos (by trivial) (Ev_pos (by rw [hsz]; rfl) (Ev_pos rfl (Ev_pos rfl (Ev_pos ?_ (Ev_pos ?_ (Ev_pos rfl (Ev_pos rfl (Ev_bind0 (x := (⟨#[97, 119, 97, 121]⟩ : ByteArray)) ?_ ?_))))))))
  · rw [tl_eq]
  · rw [tl_eq]
  · simp [frame_Name.f, rdOf]
  · refine Ev.step (fun k => bywashlaw7_alive.j0.eq_2 ..) (Ev_some ?_)
    rw [tl_eq]; rfl

theorem strip2_ev (kd fl id : Int) (b : ByteArray) (hb : b.size ≤ 4611686018427387904) : Ev (fun k => bywashref1_Strip.f k kd fl id b) (strip kd fl b) := by
  have hr := bt_r b 0
  have j2 : ∀ (w : Bool) (body : ByteArray), body.size ≤ b.size → Ev (fun k => bywashref1_Strip.j2 k body w kd fl id b) (unweigh w body b) := by
    intro w body hbody
    refine Ev.step (fun k => bywashref1_Strip.j2.eq_2 ..) ?_
    unfold unweigh
    refine Ev_ite (fun h => ?_) fun h => ?_
    · rw [if_pos h]
      refine Ev_ite (fun h5 => ?_) fun h5 => ?_
      · rw [if_pos h5]; exact Ev_some rfl
      · rw [if_neg h5]
        have he : (body.extract 5 body.size).size ≤ body.size := by simp [ByteArray.size_extract]
        refine Ev_pos (by omega) (Ev_some ?_)
        rw [wid (by omega) (by omega)]
    · rw [if_neg h]
      refine Ev_some ?_
      rw [wid (by omega) (by omega)]
  have j1 : ∀ (body : ByteArray), body.size ≤ b.size → Ev (fun k => bywashref1_Strip.j1 k body kd fl id b) (unweigh (decide (kd = 1) && (Go.bits .and .i64 fl 32 != 0)) body b) := by
    intro body hbody
    refine Ev.step (fun k => bywashref1_Strip.j1.eq_2 ..) ?_
    refine Ev_ite (fun h => ?_) fun h => ?_
    · rw [decide_eq_true h, Bool.true_and]; exact j2 _ _ hbody
    · rw [decide_eq_false h, Bool.false_and]; exact j2 _ _ hbody
  have hs := bare_size fl b
  have j0 : ∀ c : Bool, c = (decide (kd ≠ 0) && decide (kd ≠ 1)) → Ev (fun k => bywashref1_Strip.j0 k b c kd fl id b) (strip kd fl b) := by
    intro c hc
    refine Ev.step (fun k => bywashref1_Strip.j0.eq_2 ..) ?_
    refine Ev_ite (fun h => ?_) fun h => ?_
    · rw [h] at hc
      have hk : ¬ (kd = 0 ∨ kd = 1) := by
        have := hc.symm
        simp at this
        omega
      unfold strip
      rw [if_neg hk]; exact Ev_some rfl
    · have hk : kd = 0 ∨ kd = 1 := by
        have : c = false := by simpa using h
        rw [this] at hc
        by_cases h0 : kd = 0
        · exact .inl h0
        · by_cases h1 : kd = 1
          · exact .inr h1
          · simp [h0, h1] at hc
      unfold strip
      rw [if_pos hk]
      refine Ev_ite (fun h8 => ?_) fun h8 => ?_
      · have eb : bare fl b = (b, true) := by unfold bare; rw [if_pos h8]
        rw [eb]; exact j1 b (Nat.le_refl _)
      · refine Ev_ite (fun hn => ?_) fun hn => ?_
        · have eb : bare fl b = (⟨#[]⟩, false) := by unfold bare; rw [if_neg h8, if_pos ((tl_nil b).1 hn)]
          rw [eb]; exact Ev_some rfl
        · have hn' : ¬ b.size = 0 := fun h => hn ((tl_nil b).2 h)
          rw [wid (x := bt b 0) (by omega) (by omega), wid (x := (b.size : Int) - 1) (by omega) (by omega), wid (x := (b.size : Int) - bt b 0) (by omega) (by omega)]
          refine Ev_pos (by omega) (Ev_ite (fun h3 => ?_) fun h3 => Ev_pos (by omega) (Ev_pos (by omega) ?_))
          · have eb : bare fl b = (⟨#[]⟩, false) := by unfold bare; rw [if_neg h8, if_neg hn', if_pos h3]
            rw [eb]; exact Ev_some rfl
          · have eb : bare fl b = (b.extract 1 ((b.size : Int) - bt b 0).toNat, true) := by unfold bare; rw [if_neg h8, if_neg hn', if_neg h3]
            rw [eb] at hs ⊢
            exact j1 _ hs
  unfold bywashref1_Strip.f
  refine Ev_ite (fun h => ?_) fun h => ?_
  · exact j0 _ (by simp [h])
  · refine j0 _ ?_
    by_cases h1 : kd = 1 <;> simp [h, h1]

theorem and255 (x : Int) (h : 0 ≤ x) (h' : x < 2 ^ 62) : Go.bits .and .i64 x 255 = x % 256 := mask63 8 (by omega) x h h'
theorem bigr1_ev (n : Int) (h : 0 ≤ n) (h' : n ≤ 1099511627776) : Ev (fun k => bywashref1_Big.f k n 1) (strOfNums [n % 256]) := Ev_from 2 fun k => by
  have e0 := and255 n h (by omega)
  simp [bywashref1_Big.f, bywashref1_Big.l0, wrap64, List.replicate, e0]
theorem bigr3_ev (n : Int) (h : 0 ≤ n) (h' : n ≤ 1099511627776) : Ev (fun k => bywashref1_Big.f k n 3) (strOfNums [n / 65536 % 256, n / 256 % 256, n % 256]) := Ev_from 4 fun k => by
  have e0 := and255 n h (by omega)
  have e1 := and255 (n / 256) (by omega) (by omega)
  have e2 := and255 (n / 256 / 256) (by omega) (by omega)
  have f2 : n / 256 / 256 = n / 65536 := by omega
  simp [bywashref1_Big.f, bywashref1_Big.l0, wrap64, List.replicate, e0, e1, e2]
  rw [f2]
theorem bigr4_ev (n : Int) (h : 0 ≤ n) (h' : n ≤ 1099511627776) : Ev (fun k => bywashref1_Big.f k n 4) (strOfNums [n / 16777216 % 256, n / 65536 % 256, n / 256 % 256, n % 256]) := Ev_from 5 fun k => by
  have e0 := and255 n h (by omega)
  have e1 := and255 (n / 256) (by omega) (by omega)
  have e2 := and255 (n / 256 / 256) (by omega) (by omega)
  have e3 := and255 (n / 256 / 256 / 256) (by omega) (by omega)
  have f2 : n / 256 / 256 = n / 65536 := by omega
  have f3 : n / 256 / 256 / 256 = n / 16777216 := by omega
  simp [bywashref1_Big.f, bywashref1_Big.l0, wrap64, List.replicate, e0, e1, e2, e3]
  rw [f3, f2]
theorem put2_ev (kd fl id : Int) (b : ByteArray) (hb : b.size ≤ 1099511627776) : Ev (fun k => bywashref1_FramePut.f k kd fl id b) (put kd fl id b) := by
  unfold bywashref1_FramePut.f put
  refine Ev_bind0 (right_run kd fl id b) (Ev_ite (fun hr => ?_) fun hr => ?_)
  · rw [if_pos hr]
    have h := of_decide_eq_true hr
    refine Ev.bind (bigr3_ev _ (by omega) (by omega)) (Ev.bind (bigr1_ev _ (by omega) (by omega)) (Ev_pos ?_ (Ev.bind (bigr1_ev _ (by omega) (by omega)) (Ev_pos ?_ (Ev.bind (bigr4_ev _ (by omega) (by omega)) (Ev_pos ?_ (Ev_pos ?_ (Ev_some ?_))))))))
    · simp only [nums_size, List.length_cons, List.length_nil]; omega
    · simp only [app_size, nums_size, List.length_cons, List.length_nil]; omega
    · simp only [app_size, nums_size, List.length_cons, List.length_nil]; omega
    · simp only [app_size, nums_size, List.length_cons, List.length_nil]; omega
    · simp only [nums_app]; rfl
  · rw [if_neg hr]; exact Ev_some rfl
theorem of_step {r : Int} (c : ByteArray) (acc : Int) (i : Nat) (hi : i < c.size) (hc : c.size ≤ 100) (h0 : 0 ≤ acc) (h1 : acc ≤ 1099511627776) (h : Ev (fun k => bywashref1_Of.l0 k c (acc * 256 + nth c i) ((i + 1 : Nat) : Int)) r) :
    Ev (fun k => bywashref1_Of.l0 k c acc (i : Int)) r := by
  have hr := bt_r c (i : Int)
  refine Ev.step (fun k => bywashref1_Of.l0.eq_2 ..) (Ev_pos (by omega) (Ev_pos (by omega) ?_))
  rw [or_byte acc _ h0 h1 hr.1 hr.2, wid (x := (i : Int) + 1) (by omega) (by omega), bt_nth]
  exact h
theorem of_end (c : ByteArray) (acc : Int) (i : Nat) (hi : c.size = i) : Ev (fun k => bywashref1_Of.l0 k c acc (i : Int)) acc :=
  Ev.step (fun k => bywashref1_Of.l0.eq_2 ..) (Ev_neg (by omega) (Ev_some rfl))
theorem of3_ev (b : ByteArray) (h : 3 ≤ b.size) : Ev (fun k => bywashref1_Of.f k (b.extract 0 3)) (num3 b 0) := by
  have hs : (b.extract 0 3).size = 3 := cut_size b 0 3 (by omega) h
  have h0 := nth_r b 0
  have h1 := nth_r b 1
  have h2 := nth_r b 2
  unfold bywashref1_Of.f
  refine of_step _ 0 0 (by omega) (by omega) (by omega) (by omega) (of_step _ _ 1 (by omega) (by omega) ?_ ?_ (of_step _ _ 2 (by omega) (by omega) ?_ ?_ ?_)) <;> (try rw [nth_cut b 0 3 0 (by omega) h]) <;> (try rw [nth_cut b 0 3 1 (by omega) h]) <;> (try rw [nth_cut b 0 3 2 (by omega) h])
  · simp only [Nat.zero_add]; omega
  · simp only [Nat.zero_add]; omega
  · simp only [Nat.zero_add]; omega
  · simp only [Nat.zero_add]; omega
  · have := of_end (b.extract 0 3) (num3 b 0) 3 hs
    simpa [num3] using this
theorem of4_ev (b : ByteArray) (h : 9 ≤ b.size) : Ev (fun k => bywashref1_Of.f k (b.extract 5 9)) (num4 b 5) := by
  have hs : (b.extract 5 9).size = 4 := cut_size b 5 9 (by omega) h
  have h0 := nth_r b 5
  have h1 := nth_r b 6
  have h2 := nth_r b 7
  have h3 := nth_r b 8
  unfold bywashref1_Of.f
  refine of_step _ 0 0 (by omega) (by omega) (by omega) (by omega) (of_step _ _ 1 (by omega) (by omega) ?_ ?_ (of_step _ _ 2 (by omega) (by omega) ?_ ?_ (of_step _ _ 3 (by omega) (by omega) ?_ ?_ ?_))) <;> (try rw [nth_cut b 5 9 0 (by omega) h]) <;> (try rw [nth_cut b 5 9 1 (by omega) h]) <;> (try rw [nth_cut b 5 9 2 (by omega) h]) <;> (try rw [nth_cut b 5 9 3 (by omega) h])
  · simp only [Nat.add_zero, Nat.reduceAdd]; omega
  · simp only [Nat.add_zero, Nat.reduceAdd]; omega
  · simp only [Nat.add_zero, Nat.reduceAdd]; omega
  · simp only [Nat.add_zero, Nat.reduceAdd]; omega
  · simp only [Nat.add_zero, Nat.reduceAdd]; omega
  · simp only [Nat.add_zero, Nat.reduceAdd]; omega
  · have := of_end (b.extract 5 9) (num4 b 5) 4 hs
    simpa [num4] using this
theorem get2_ev (b : ByteArray) (hb : b.size ≤ 1099511627776) : Ev (fun k => bywashref1_FrameGet.f k b) (getv b) := by
  have hn := num3_r b 0
  have hn4 := num4_r b 5
  have j0 : ∀ c : Bool, c = decide (b.size < 9 ∨ (b.size : Int) < 9 + num3 b 0) → Ev (fun k => bywashref1_FrameGet.j0 k b c) (getv b) := by
    intro c hc
    refine Ev.step (fun k => bywashref1_FrameGet.j0.eq_2 ..) ?_
    unfold getv
    refine Ev_ite (fun h => ?_) fun h => ?_
    · rw [if_pos (of_decide_eq_true (hc.symm.trans h))]; exact Ev_some rfl
    · have hs : ¬ (b.size < 9 ∨ (b.size : Int) < 9 + num3 b 0) := fun hh => h (hc.trans (decide_eq_true hh))
      rw [if_neg hs]
      refine Ev_pos (by omega) (Ev_pos (by omega) (Ev.bind (of3_ev b (by omega)) (Ev_pos (by omega) (Ev_pos (by omega) (Ev_pos (by omega) (Ev_pos (by omega) (Ev.bind (of4_ev b (by omega)) ?_)))))))
      rw [wid (x := 9 + num3 b 0) (by omega) (by omega)]
      refine Ev_pos (by omega) (Ev_pos (by omega) (Ev_some ?_))
      have hm : Go.bits .and .i64 (num4 b 5) 2147483647 = num4 b 5 % 2147483648 := mask63 31 (by omega) _ hn4.1 (by omega)
      have b3 := bt_r b 3
      have b4 := bt_r b 4
      rw [hm, wid (x := bt b 3) (by omega) (by omega), wid (x := bt b 4) (by omega) (by omega), bt_nth, bt_nth]
      rfl
  unfold bywashref1_FrameGet.f
  refine Ev_ite (fun h => ?_) fun h => ?_
  · exact j0 true (decide_eq_true (.inl (by omega))).symm
  · refine Ev_pos (by omega) (Ev_pos (by omega) (Ev.bind (of3_ev b (by omega)) ?_))
    rw [wid (x := 9 + num3 b 0) (by omega) (by omega)]
    exact j0 _ (decide_eq_decide.2 (by omega))
theorem name_tot (n : Int) : ∃ x, frame_Name.f n = some x := by
  unfold frame_Name.f
  simp only [Option.bind_some]
  split
  · exact ⟨_, rfl⟩
  · split
    · exact ⟨_, rfl⟩
    · rw [if_pos (by omega), if_pos (by omega)]; exact ⟨_, rfl⟩
theorem name_same (n : Int) : bywashref1_FrameName.f n = frame_Name.f n := rfl
theorem FrameTells : StaFrameTells.Pure := by
  intro a x n ha hx hn
  obtain ⟨kd, fl, id, b⟩ := a
  have j0_true : Ev (fun k => bywashlaw7_FrameTells.j0 k x n true kd fl id b) true :=
    Ev.step (fun k => bywashlaw7_FrameTells.j0.eq_2 ..) (Ev_pos rfl (Ev.bind alive_ev (Ev_some rfl)))
  have fin : ∀ t : Bool, t = true → Ev (fun k => bywashlaw7_FrameTells.j2 k t) true := fun t ht => Ev.step (fun k => bywashlaw7_FrameTells.j2.eq_2 ..) (Ev_some ht)
  refine Ev.rounds ?_
  unfold bywashlaw7_FrameTells.f
  refine Ev_ite (fun _ => j0_true) fun h1 => ?_
  refine Ev_ite (fun _ => j0_true) fun h2 => ?_
  refine Ev.bind alive_ev ?_
  simp only [] at h1
  obtain ⟨nm, hnm⟩ := name_tot n
  refine Ev.step (fun k => bywashlaw7_FrameTells.j0.eq_2 ..) (Ev_neg (by simp) ?_)
  refine Ev.bind (put_ev kd fl id b (by omega)) (Ev.bind (put2_ev kd fl id b (by omega)) (Ev.bind (get_ev x (by omega)) (Ev.bind (get2_ev x (by omega)) (Ev.bind (strip_ev kd fl id b (by omega)) (Ev.bind (strip2_ev kd fl id b (by omega)) (Ev_pos rfl ?_))))))
  by_cases hr : rightB kd fl id b = true
  · have ep : put kd fl id b = (putv kd fl id b, true) := by unfold put; rw [if_pos hr]
    rw [ep]
    have hs := putv_size kd fl id b
    refine Ev_pos rfl (Ev_pos rfl (Ev_bind0 (right_run kd fl id b) (Ev_pos hr (Ev_neg (by simp) (Ev_pos rfl (Ev_pos rfl (Ev_pos rfl (Ev_pos rfl (Ev_pos rfl (Ev_bind0 hnm (Ev_bind0 hnm ?_)))))))))))
    refine Ev.step (fun k => bywashlaw7_FrameTells.j1.eq_2 ..) (Ev_neg (by simp) (Ev_pos rfl (Ev_pos (by simp only [hs]; omega) (Ev.bind (get_ev _ (by rw [app_size, hs]; omega)) ?_))))
    rw [getv_putv kd fl id b x hr]
    refine Ev_pos rfl (Ev_pos (by simp) (fin _ ?_))
    simp only [hs]
    simp
  · have ep : put kd fl id b = (⟨#[]⟩, false) := by unfold put; rw [if_neg hr]
    rw [ep]
    refine Ev_neg (by simp) (Ev_neg (by simp) (Ev_bind0 (right_run kd fl id b) (Ev_neg hr (Ev_neg (by simp) (Ev_pos rfl (Ev_pos rfl (Ev_pos rfl (Ev_pos rfl (Ev_pos rfl (Ev_bind0 hnm (Ev_bind0 hnm ?_)))))))))))
    exact Ev.step (fun k => bywashlaw7_FrameTells.j1.eq_2 ..) (Ev_neg (by simp) (Ev_neg (by simp) (Ev_some rfl)))

end Go.Proofs.Ytehccigpbchbcaa.Pure
