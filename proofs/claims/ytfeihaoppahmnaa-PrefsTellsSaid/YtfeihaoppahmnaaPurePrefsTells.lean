/- Every settings as bytes, and back. Conditions: those of the statement itself. -/
import Derived.Test.YtfeihaoppahmnaaPPrefsTellsx0
import Derived.Test.YtfeihaoppahmnaaPPrefsTellsx1
import Derived.Test.YtfeihaoppahmnaaPPrefsTellsx4
import Derived.Test.YtfeihaoppahmnaaPPrefsTellsx5
import Derived.Test.YtfeihaoppahmnaaPPrefsTellsx6
import Derived.Test.YtfeihaoppahmnaaPPrefsTellsx7
import Derived.Test.YtfeihaoppahmnaaPPrefsTellsx9
import Derived.Test.YtfeihaoppahmnaaPPrefsTellsx11
import Derived.Test.YtfeihaoppahmnaaPPrefsTellsx12
import Derived.Test.YtfeihaoppahmnaaAid
namespace Go.Proofs.Ytfeihaoppahmnaa.Pure
open Go.RowKit Go.Proofs.YtfeihaoppahmnaaW.PrintWords Go.Proofs.YtfeihaoppahmnaaW.PrintLast Go.Proofs.YtfeihaoppahmnaaW.PrintMore Go.Proofs.Ytfeihaoppahmnaa.Aid Go.Proofs.Ytfeihaoppahmnaa.PPrefsTells
set_option linter.unusedVariables false
set_option linter.unusedSimpArgs false

theorem tl_eq (a : ByteArray) : a.toList = a.data.toList := ByteArray.toList_eq a
theorem ba_ext {a b : ByteArray} (h : a.data = b.data) : a = b := by cases a; cases b; cases h; rfl
theorem ba_of_list {a b : ByteArray} (h : a.toList = b.toList) : a = b := by
  rw [tl_eq, tl_eq] at h
  exact ba_ext (Array.toList_inj.1 h)
theorem tl_nil (b : ByteArray) : b.toList = ([] : List UInt8) ↔ b.size = 0 := by
  rw [tl_eq]
  constructor
  · intro h
    have := congrArg List.length h
    rw [Array.length_toList] at this
    exact this
  · intro h
    have : b.data.toList.length = 0 := by rw [Array.length_toList]; exact h
    exact List.length_eq_zero_iff.1 this
theorem nil_of_size {c : ByteArray} (h : c.size = 0) : c = ⟨#[]⟩ := ba_of_list (by rw [(tl_nil c).2 h, (tl_nil _).2 rfl])
theorem bt_r (s : ByteArray) (i : Int) : 0 ≤ bt s i ∧ bt s i ≤ 255 := bt_range s i
def nth (s : ByteArray) (n : Nat) : Int := ((s.data[n]?).map fun x => (x.toNat : Int)).getD 0
theorem bt_nth (s : ByteArray) (i : Int) : bt s i = nth s i.toNat := by
  unfold bt nth
  by_cases h : i.toNat < s.size
  · rw [dif_pos h]
    have h' : i.toNat < s.data.size := h
    rw [Array.getElem?_eq_getElem h']
    rfl
  · rw [dif_neg h]
    have h' : s.data.size ≤ i.toNat := Nat.le_of_not_lt h
    rw [Array.getElem?_eq_none h']
    rfl
theorem nth_app (a b : ByteArray) (n : Nat) : nth (a ++ b) n = if n < a.size then nth a n else nth b (n - a.size) := by
  unfold nth
  rw [ByteArray.data_append]
  have hs : a.size = a.data.size := rfl
  by_cases h : n < a.size
  · rw [if_pos h, Array.getElem?_append_left (by omega)]
  · rw [if_neg h, Array.getElem?_append_right (by omega), ← hs]
theorem nth_cut (b : ByteArray) (lo hi n : Nat) (h : lo + n < hi) (hh : hi ≤ b.size) : nth (b.extract lo hi) n = nth b (lo + n) := by
  unfold nth
  rw [ByteArray.data_extract, Array.getElem?_extract, if_pos]
  have hs : b.size = b.data.size := rfl
  rw [← hs]; omega
theorem nth_nums (l : List Int) (n : Nat) (h : n < l.length) (h0 : 0 ≤ l[n]) : nth (strOfNums l) n = l[n] % 256 := by
  unfold nth strOfNums
  simp only [List.getElem?_toArray, List.getElem?_map, List.getElem?_eq_getElem h, Option.map_some, Option.getD_some, UInt8.toNat_ofNat']
  omega
theorem nth_ext {a b : ByteArray} (hs : a.size = b.size) (h : ∀ n, n < a.size → nth a n = nth b n) : a = b := by
  apply ba_ext
  apply Array.ext hs
  intro i h1 h2
  have := h i h1
  unfold nth at this
  rw [Array.getElem?_eq_getElem h1, Array.getElem?_eq_getElem h2] at this
  simp only [Option.map_some, Option.getD_some] at this
  exact UInt8.toNat_inj.1 (by omega)
theorem app_size (a b : ByteArray) : (a ++ b).size = a.size + b.size := ByteArray.size_append
theorem app_assoc (a b c : ByteArray) : a ++ b ++ c = a ++ (b ++ c) := by
  apply ba_ext
  simp only [ByteArray.data_append, Array.append_assoc]
theorem app_nil (a : ByteArray) (b : ByteArray) (h : b.size = 0) : a ++ b = a := by
  apply ba_ext
  rw [ByteArray.data_append]
  have : b.data = #[] := Array.eq_empty_of_size_eq_zero h
  rw [this, Array.append_empty]
theorem nil_app (b : ByteArray) : (⟨#[]⟩ : ByteArray) ++ b = b := by
  apply ba_ext
  rw [ByteArray.data_append]
  exact Array.empty_append
theorem cut_size (b : ByteArray) (lo hi : Nat) (h : lo ≤ hi) (hh : hi ≤ b.size) : (b.extract lo hi).size = hi - lo := by rw [ByteArray.size_extract]; omega
theorem cut_all (b : ByteArray) : b.extract 0 b.size = b := by
  apply ba_ext
  rw [ByteArray.data_extract]
  exact Array.extract_size
theorem cut_join (b : ByteArray) (m : Nat) (h : m ≤ b.size) : b.extract 0 m ++ b.extract m b.size = b := by
  apply ba_ext
  have hs : b.size = b.data.size := rfl
  rw [ByteArray.data_append, ByteArray.data_extract, ByteArray.data_extract, Array.extract_append_extract]
  have e1 : min 0 m = 0 := by omega
  have e2 : max m b.size = b.data.size := by rw [← hs]; omega
  rw [e1, e2, Array.extract_size]
theorem cut_left (a b : ByteArray) : (a ++ b).extract 0 a.size = a := by
  apply nth_ext
  · rw [cut_size _ _ _ (Nat.zero_le _) (by rw [app_size]; omega)]; omega
  · intro n hn
    rw [cut_size _ _ _ (Nat.zero_le _) (by rw [app_size]; omega)] at hn
    rw [nth_cut _ _ _ _ (by omega) (by rw [app_size]; omega), nth_app, if_pos (by omega), Nat.zero_add]
theorem cut_right (a b : ByteArray) : (a ++ b).extract a.size (a ++ b).size = b := by
  have hs := app_size a b
  apply nth_ext
  · rw [cut_size _ _ _ (by omega) (Nat.le_refl _)]; omega
  · intro n hn
    rw [cut_size _ _ _ (by omega) (Nat.le_refl _)] at hn
    rw [nth_cut _ _ _ _ (by omega) (Nat.le_refl _), nth_app, if_neg (by omega), Nat.add_sub_cancel_left]
theorem mask63 (i : Nat) (hi : i ≤ 62) (x : Int) (h0 : 0 ≤ x) (h1 : x < 2 ^ 62) : Go.bits .and .i64 x (2 ^ i - 1) = x % 2 ^ i :=
  bits_mask .i64 62 (by decide) (fun n h0 h1 => by rw [IntKind.wrap_i64]; omega) i hi x h0 h1
theorem or_byte (x y : Int) (hx : 0 ≤ x) (hx' : x ≤ 1099511627776) (hy : 0 ≤ y) (hy' : y ≤ 255) : Go.bits .or .i64 (wrap64 (x * 256)) (wrap64 y) = x * 256 + y := by
  rw [wid (by omega) (by omega), wid (by omega) (by omega)]
  exact bits_join .i64 62 (by decide) (fun n h0 h1 => by rw [IntKind.wrap_i64]; omega) 8 (x * 256) y (by omega) (by omega) (by omega) hy (by omega) (by omega)

theorem nums_app (a b : List Int) : strOfNums a ++ strOfNums b = strOfNums (a ++ b) := by
  apply ba_ext
  rw [ByteArray.data_append]
  simp [strOfNums]
theorem nums_size (l : List Int) : (strOfNums l).size = l.length := strOfNums_size l
theorem nth_r (b : ByteArray) (n : Nat) : 0 ≤ nth b n ∧ nth b n ≤ 255 := by
  have := bt_r b (n : Int)
  rw [bt_nth] at this
  simpa using this
abbrev P5 := Int × Int × Int × Int × Int
/-- One setting. -/
def onev (p : P5) (i v : Int) : Int × Int × P5 :=
  if i = 1 then (0, 0, v, p.2.1, p.2.2.1, p.2.2.2.1, p.2.2.2.2)
  else if i = 3 then (0, 0, p.1, mn v 6, p.2.2.1, p.2.2.2.1, p.2.2.2.2)
  else if i = 4 then (if v > 2147483647 then (3, 9, p.1, p.2.1, p.2.2.1, p.2.2.2.1, p.2.2.2.2) else (0, 0, p.1, p.2.1, v, p.2.2.2.1, p.2.2.2.2))
  else if i = 6 then (0, 0, p.1, p.2.1, p.2.2.1, p.2.2.2.1, v)
  else if i = 5 then (if 64 ≤ v ∧ v ≤ 16777215 then (0, 0, p.1, p.2.1, p.2.2.1, mn v 512, p.2.2.2.2) else (1, 11, p.1, p.2.1, p.2.2.1, p.2.2.2.1, p.2.2.2.2))
  else if i = 2 then (if v = 0 then (0, 0, p.1, p.2.1, p.2.2.1, p.2.2.2.1, p.2.2.2.2) else (1, 11, p.1, p.2.1, p.2.2.1, p.2.2.2.1, p.2.2.2.2))
  else (0, 0, p.1, p.2.1, p.2.2.1, p.2.2.2.1, p.2.2.2.2)
theorem one_ev (p : P5) (i v : Int) : Ev (fun k => prefs_Prefs_one.f k p.1 p.2.1 p.2.2.1 p.2.2.2.1 p.2.2.2.2 i v) (onev p i v) := by
  obtain ⟨a, b, c, d, e⟩ := p
  unfold prefs_Prefs_one.f onev
  refine Ev_ite (fun h => ?_) fun h1 => ?_
  · rw [if_pos h]; exact Ev_some rfl
  rw [if_neg h1]
  refine Ev_ite (fun h => ?_) fun h3 => ?_
  · rw [if_pos h]; exact Ev_some rfl
  rw [if_neg h3]
  refine Ev_ite (fun h => ?_) fun h4 => ?_
  · rw [if_pos h]
    refine Ev_ite (fun h' => ?_) fun h' => ?_
    · rw [if_pos h']; exact Ev_some rfl
    · rw [if_neg h']; exact Ev_some rfl
  rw [if_neg h4]
  refine Ev_ite (fun h => ?_) fun h6 => ?_
  · rw [if_pos h]; exact Ev_some rfl
  rw [if_neg h6]
  have j0 : ∀ t : Bool, t = decide (64 ≤ v ∧ v ≤ 16777215) → Ev (fun k => prefs_Prefs_one.j0 k t a b c d e i v) (if 64 ≤ v ∧ v ≤ 16777215 then (0, 0, a, b, c, mn v 512, e) else (1, 11, a, b, c, d, e)) := by
    intro t ht
    refine Ev.step (fun k => prefs_Prefs_one.j0.eq_2 ..) ?_
    refine Ev_ite (fun h => ?_) fun h => ?_
    · rw [if_pos (of_decide_eq_true (ht.symm.trans h))]; exact Ev_some rfl
    · rw [if_neg (fun hh => h (ht.trans (decide_eq_true hh)))]; exact Ev_neg (by omega) (Ev_some rfl)
  refine Ev_ite (fun h => ?_) fun h5 => ?_
  · rw [if_pos h]
    refine Ev_ite (fun h' => j0 _ ?_) fun h' => j0 _ ?_
    · exact decide_eq_decide.2 (by omega)
    · exact (decide_eq_false (by omega)).symm
  rw [if_neg h5]
  refine Ev_ite (fun h => ?_) fun h2 => ?_
  · rw [if_pos h]
    refine Ev_ite (fun h' => ?_) fun h' => ?_
    · rw [if_pos h']; exact Ev_some rfl
    · rw [if_neg h']; exact Ev_some rfl
  rw [if_neg h2]; exact Ev_some rfl
/-- Settings, one behind the other, up to the first that is refused. -/
def applyv (p0 : P5) : P5 → List S48 → Int × Int × Int × Int × Int × Int × Int
  | p, [] => (p.1, p.2.1, p.2.2.1, p.2.2.2.1, p.2.2.2.2, 0, 0)
  | p, x :: xs => if (onev p x.f0 x.f1).2.1 = 0 then applyv p0 (onev p x.f0 x.f1).2.2 xs else (p0.1, p0.2.1, p0.2.2.1, p0.2.2.2.1, p0.2.2.2.2, (onev p x.f0 x.f1).1, (onev p x.f0 x.f1).2.1)
theorem drop_rd (l : List S48) (i : Nat) (h : i < l.length) : l.drop i = rd_T48 l (i : Int) :: l.drop (i + 1) := by
  unfold rd_T48
  rw [Int.toNat_natCast, List.drop_eq_getElem_cons h, List.getD_eq_getElem?_getD, List.getElem?_eq_getElem h]; rfl
theorem apply_l0 (l : List S48) (hl : l.length ≤ 140737488351232) (p0 : P5) (d : Nat) : ∀ (i : Nat) (p : P5), l.length ≤ i + d → i ≤ l.length →
    Ev (fun k => prefs_Apply.l0 k l (l.length : Int) (i : Int) p0.1 p0.2.1 p0.2.2.1 p0.2.2.2.1 p0.2.2.2.2 p.1 p.2.1 p.2.2.1 p.2.2.2.1 p.2.2.2.2) (applyv p0 p (l.drop i)) := by
  have done : ∀ (i : Nat) (p : P5), ¬ i < l.length → Ev (fun k => prefs_Apply.l0 k l (l.length : Int) (i : Int) p0.1 p0.2.1 p0.2.2.1 p0.2.2.2.1 p0.2.2.2.2 p.1 p.2.1 p.2.2.1 p.2.2.2.1 p.2.2.2.2) (applyv p0 p (l.drop i)) := by
    intro i p hi
    rw [List.drop_eq_nil_of_le (by omega)]
    exact Ev.step (fun k => prefs_Apply.l0.eq_2 ..) (Ev_neg (by omega) (Ev_some rfl))
  induction d with
  | zero => intro i p h1 h2; exact done i p (by omega)
  | succ d ih =>
    intro i p h1 h2
    by_cases hi : i < l.length
    · rw [drop_rd l i hi]
      refine Ev.step (fun k => prefs_Apply.l0.eq_2 ..) (Ev_pos (by omega) (Ev_pos (by omega) (Ev_pos (by omega) (Ev.bind (one_ev p _ _) ?_))))
      unfold applyv
      refine Ev_ite (fun h => ?_) fun h => ?_
      · rw [if_pos h, wid (x := (i : Int) + 1) (by omega) (by omega)]
        exact ih (i + 1) _ (by omega) (by omega)
      · rw [if_neg h]; exact Ev_some rfl
    · exact done i p hi
theorem apply_ev (p : P5) (l : List S48) (hl : l.length ≤ 140737488351232) : Ev (fun k => prefs_Apply.f k p.1 p.2.1 p.2.2.1 p.2.2.2.1 p.2.2.2.2 l) (applyv p p l) := by
  unfold prefs_Apply.f
  exact apply_l0 l hl p l.length 0 p (by omega) (by omega)
def pbytes (x : S48) : List Int := [x.f0 / 256 % 256, x.f0 % 256, x.f1 / 16777216 % 256, x.f1 / 65536 % 256, x.f1 / 256 % 256, x.f1 % 256]
def okP (x : S48) : Prop := 0 ≤ x.f0 ∧ x.f0 ≤ 65535 ∧ 0 ≤ x.f1 ∧ x.f1 ≤ 4294967295
instance (x : S48) : Decidable (okP x) := by unfold okP; infer_instance
def flat (l : List S48) : List Int := l.flatMap pbytes
theorem flat_cons (x : S48) (l : List S48) : flat (x :: l) = pbytes x ++ flat l := rfl
theorem flat_length (l : List S48) : (flat l).length = 6 * l.length := by
  induction l with
  | nil => rfl
  | cons x l ih => rw [flat_cons, List.length_append, ih]; show 6 + 6 * l.length = 6 * (l.length + 1); omega
theorem put_l0 (l : List S48) (hl : l.length ≤ 1000000) (d : Nat) : ∀ (i : Nat) (x : List Int), l.length ≤ i + d → i ≤ l.length → x.length ≤ 6 * i →
    Ev (fun k => prefs_Put.l0 k x l (l.length : Int) (i : Int)) (if ∀ y ∈ l.drop i, okP y then (strOfNums (x ++ flat (l.drop i)), true) else ((⟨#[]⟩ : ByteArray), false)) := by
  have done : ∀ (i : Nat) (x : List Int), ¬ i < l.length → Ev (fun k => prefs_Put.l0 k x l (l.length : Int) (i : Int)) (if ∀ y ∈ l.drop i, okP y then (strOfNums (x ++ flat (l.drop i)), true) else ((⟨#[]⟩ : ByteArray), false)) := by
    intro i x hi
    rw [List.drop_eq_nil_of_le (by omega), if_pos (by simp)]
    have : x ++ flat [] = x := List.append_nil x
    rw [this]
    exact Ev.step (fun k => prefs_Put.l0.eq_2 ..) (Ev_neg (by omega) (Ev_some rfl))
  induction d with
  | zero => intro i x h1 h2 _; exact done i x (by omega)
  | succ d ih =>
    intro i x h1 h2 hx
    by_cases hi : i < l.length
    · rw [drop_rd l i hi]
      generalize hq : rd_T48 l (i : Int) = q
      refine Ev.step (fun k => prefs_Put.l0.eq_2 ..) (Ev_pos (by omega) (Ev_pos (by omega) (Ev_pos (by omega) ?_)))
      rw [hq]
      by_cases hok : okP q
      · obtain ⟨o1, o2, o3, o4⟩ := hok
        refine Ev_neg (by omega) (Ev_neg (by omega) (Ev_neg (by omega) (Ev_neg (by omega) (Ev_bind0 rfl (Ev_pos (by simp only [List.length_cons, List.length_nil]; omega) ?_)))))
        rw [wid (x := (i : Int) + 1) (by omega) (by omega)]
        have e : (if ∀ y ∈ q :: l.drop (i + 1), okP y then (strOfNums (x ++ flat (q :: l.drop (i + 1))), true) else ((⟨#[]⟩ : ByteArray), false)) = if ∀ y ∈ l.drop (i + 1), okP y then (strOfNums ((x ++ pbytes q) ++ flat (l.drop (i + 1))), true) else ((⟨#[]⟩ : ByteArray), false) := by
          rw [flat_cons, List.append_assoc]
          by_cases hh : ∀ y ∈ l.drop (i + 1), okP y
          · rw [if_pos hh, if_pos (fun y hy => by
              rcases List.mem_cons.1 hy with h | h
              · rw [h]; exact ⟨o1, o2, o3, o4⟩
              · exact hh y h)]
          · rw [if_neg hh, if_neg (fun h => hh (fun y hy => h y (List.mem_cons_of_mem _ hy)))]
        rw [e]
        exact ih (i + 1) _ (by omega) (by omega) (by rw [List.length_append]; show x.length + 6 ≤ _; omega)
      · rw [if_neg (fun h => hok (h q List.mem_cons_self))]
        refine Ev_ite (fun _ => Ev_some rfl) fun h1 => ?_
        refine Ev_ite (fun _ => Ev_some rfl) fun h2 => ?_
        refine Ev_ite (fun _ => Ev_some rfl) fun h3 => ?_
        refine Ev_ite (fun _ => Ev_some rfl) fun h4 => ?_
        exact absurd (show okP q from ⟨by omega, by omega, by omega, by omega⟩) hok
    · exact done i x hi
theorem put_ev (l : List S48) (hl : l.length ≤ 1000000) : Ev (fun k => prefs_Put.f k l) (if ∀ y ∈ l, okP y then (strOfNums (flat l), true) else ((⟨#[]⟩ : ByteArray), false)) := by
  unfold prefs_Put.f
  have := put_l0 l hl l.length 0 [] (by omega) (by omega) (by simp)
  rw [List.drop_zero] at this
  exact this
def rdv (b : ByteArray) : S48 := ⟨nth b 0 * 256 + nth b 1, ((nth b 2 * 256 + nth b 3) * 256 + nth b 4) * 256 + nth b 5⟩
def getl : Nat → ByteArray → List S48
  | 0, _ => []
  | n + 1, b => rdv b :: getl n (b.extract 6 b.size)
theorem getl_length (n : Nat) : ∀ b, (getl n b).length = n := by
  induction n with
  | zero => intro b; rfl
  | succ n ih => intro b; show (getl n _).length + 1 = n + 1; rw [ih]
theorem or_join (i : Nat) (hi : i ≤ 62) (x y : Int) (hx : 0 ≤ x) (hx' : x < 2 ^ 61) (hm : x % 2 ^ i = 0) (hy : 0 ≤ y) (hy' : y < 2 ^ i) (hy2 : y < 2 ^ 61) : Go.bits .or .i64 x y = x + y :=
  bits_join .i64 62 (by decide) (fun n h0 h1 => by rw [IntKind.wrap_i64]; omega) i x y hx hm (by omega) hy hy' (by omega)
theorem get_l0 (n : Nat) : ∀ (b : ByteArray) (x : List S48), b.size = 6 * n → x.length + n ≤ 1000000 → Ev (fun k => prefs_Get.l0 k b x) (x ++ getl n b, true) := by
  induction n with
  | zero =>
    intro b x hb hx
    refine Ev.step (fun k => prefs_Get.l0.eq_2 ..) (Ev_pos ((tl_nil b).2 (by omega)) (Ev_some ?_))
    show (x, true) = (x ++ [], true)
    rw [List.append_nil]
  | succ n ih =>
    intro b x hb hx
    refine Ev.step (fun k => prefs_Get.l0.eq_2 ..) (Ev_neg (fun h => by have := (tl_nil b).1 h; omega) (Ev_pos (by omega) (Ev_pos (by omega) (Ev_pos (by omega) (Ev_pos (by omega) (Ev_pos (by omega) (Ev_pos (by omega) (Ev_pos (by omega) (Ev_pos (by omega) ?_)))))))))
    have h0 := bt_r b 0
    have h1 := bt_r b 1
    have h2 := bt_r b 2
    have h3 := bt_r b 3
    have h4 := bt_r b 4
    have h5 := bt_r b 5
    have e : (⟨Go.bits .or .i64 (wrap64 ((wrap64 (bt b 0)) * 256)) (wrap64 (bt b 1)), Go.bits .or .i64 (Go.bits .or .i64 (Go.bits .or .i64 (wrap64 ((wrap64 (bt b 2)) * 16777216)) (wrap64 ((wrap64 (bt b 3)) * 65536))) (wrap64 ((wrap64 (bt b 4)) * 256))) (wrap64 (bt b 5))⟩ : S48) = rdv b := by
      rw [wid (x := bt b 0) (by omega) (by omega), wid (x := bt b 1) (by omega) (by omega), wid (x := bt b 2) (by omega) (by omega), wid (x := bt b 3) (by omega) (by omega), wid (x := bt b 4) (by omega) (by omega), wid (x := bt b 5) (by omega) (by omega), wid (x := bt b 0 * 256) (by omega) (by omega), wid (x := bt b 2 * 16777216) (by omega) (by omega), wid (x := bt b 3 * 65536) (by omega) (by omega), wid (x := bt b 4 * 256) (by omega) (by omega)]
      rw [or_join 8 (by omega) (bt b 0 * 256) (bt b 1) (by omega) (by omega) (by omega) (by omega) (by omega) (by omega)]
      rw [or_join 24 (by omega) (bt b 2 * 16777216) (bt b 3 * 65536) (by omega) (by omega) (by omega) (by omega) (by omega) (by omega)]
      rw [or_join 16 (by omega) (bt b 2 * 16777216 + bt b 3 * 65536) (bt b 4 * 256) (by omega) (by omega) (by omega) (by omega) (by omega) (by omega)]
      rw [or_join 8 (by omega) (bt b 2 * 16777216 + bt b 3 * 65536 + bt b 4 * 256) (bt b 5) (by omega) (by omega) (by omega) (by omega) (by omega) (by omega)]
      have e0 : bt b 0 = nth b 0 := bt_nth b 0
      have e1 : bt b 1 = nth b 1 := bt_nth b 1
      have e2 : bt b 2 = nth b 2 := bt_nth b 2
      have e3 : bt b 3 = nth b 3 := bt_nth b 3
      have e4 : bt b 4 = nth b 4 := bt_nth b 4
      have e5 : bt b 5 = nth b 5 := bt_nth b 5
      rw [e0, e1, e2, e3, e4, e5]
      unfold rdv
      congr 1
      omega
    rw [e]
    have := ih (b.extract 6 b.size) (x ++ [rdv b]) (by rw [cut_size _ _ _ (by omega) (by omega)]; omega) (by rw [List.length_append]; show x.length + 1 + n ≤ _; omega)
    rw [List.append_assoc] at this
    exact this
theorem get_ev (n : Nat) (b : ByteArray) (hb : b.size = 6 * n) (hn : n ≤ 1000000) : Ev (fun k => prefs_Get.f k b) (getl n b, true) := by
  unfold prefs_Get.f
  refine Ev_pos (by omega) ?_
  exact get_l0 n b [] hb (by simpa using hn)
theorem get_no (b : ByteArray) (hb : ¬ b.size % 6 = 0) : Ev (fun k => prefs_Get.f k b) ([], false) := by
  unfold prefs_Get.f
  exact Ev_neg (by omega) (Ev_some rfl)
theorem rdv_put (x : S48) (h : okP x) (r : ByteArray) : rdv (strOfNums (pbytes x) ++ r) = x := by
  obtain ⟨o1, o2, o3, o4⟩ := h
  have hl : (pbytes x).length = 6 := rfl
  have hn : ∀ (n : Nat) (h : n < 6), nth (strOfNums (pbytes x) ++ r) n = (pbytes x)[n]'(by rw [hl]; exact h) % 256 := by
    intro n h
    rw [nth_app, nums_size, if_pos (by rw [hl]; exact h), nth_nums _ n (by rw [hl]; exact h)]
    have : n = 0 ∨ n = 1 ∨ n = 2 ∨ n = 3 ∨ n = 4 ∨ n = 5 := by omega
    rcases this with rfl | rfl | rfl | rfl | rfl | rfl <;> simp [pbytes] <;> omega
  obtain ⟨a, c⟩ := x
  unfold rdv
  rw [hn 0 (by omega), hn 1 (by omega), hn 2 (by omega), hn 3 (by omega), hn 4 (by omega), hn 5 (by omega)]
  simp only [pbytes, List.getElem_cons_zero, List.getElem_cons_succ]
  simp only [] at o1 o2 o3 o4
  congr 1 <;> omega
theorem getl_put (l : List S48) (h : ∀ y ∈ l, okP y) : getl l.length (strOfNums (flat l)) = l := by
  induction l with
  | nil => rfl
  | cons x l ih =>
    have e : strOfNums (flat (x :: l)) = strOfNums (pbytes x) ++ strOfNums (flat l) := by rw [flat_cons, nums_app]
    show rdv (strOfNums (flat (x :: l))) :: getl l.length ((strOfNums (flat (x :: l))).extract 6 (strOfNums (flat (x :: l))).size) = x :: l
    have hc := cut_right (strOfNums (pbytes x)) (strOfNums (flat l))
    have hs : (strOfNums (pbytes x)).size = 6 := by rw [nums_size]; rfl
    rw [hs] at hc
    rw [e, hc, rdv_put x (h x List.mem_cons_self), ih (fun y hy => h y (List.mem_cons_of_mem _ hy))]
def mineL (w : Int) : List S48 := [⟨2, 0⟩, ⟨4, w⟩, ⟨6, 600⟩]
theorem mine_ok (w : Int) (h : 1 ≤ w) (h' : w ≤ 65535) : ∀ y ∈ mineL w, okP y := by
  intro y hy
  simp only [mineL, List.mem_cons, List.not_mem_nil, or_false] at hy
  rcases hy with rfl | rfl | rfl <;> refine ⟨?_, ?_, ?_, ?_⟩ <;> (simp only []; omega)
theorem mine_ev (w : Int) (h : 1 ≤ w) (h' : w ≤ 65535) : Ev (fun k => prefs_Mine.f k w) (strOfNums (flat (mineL w)), true) := by
  unfold prefs_Mine.f
  refine Ev_neg (by omega) (Ev_neg (by omega) ?_)
  have := put_ev (mineL w) (by show 3 ≤ 1000000; omega)
  rw [if_pos (mine_ok w h h')] at this
  exact Ev.bind this (Ev_some rfl)
theorem mine_no (w : Int) (h : ¬ (1 ≤ w ∧ w ≤ 65535)) : Ev (fun k => prefs_Mine.f k w) ((⟨#[]⟩ : ByteArray), false) := by
  unfold prefs_Mine.f
  exact Ev_ite (fun _ => Ev_some rfl) fun h1 => Ev_pos (by omega) (Ev_some rfl)
theorem mine_get (w : Int) (h : 1 ≤ w) (h' : w ≤ 65535) : Ev (fun k => prefs_Get.f k (strOfNums (flat (mineL w)))) (mineL w, true) := by
  have := get_ev 3 (strOfNums (flat (mineL w))) (by rw [nums_size, flat_length]; rfl) (by omega)
  have e := getl_put (mineL w) (mine_ok w h h')
  have e3 : (mineL w).length = 3 := rfl
  rw [e3] at e
  rw [e] at this
  exact this
theorem alive_ev : Ev (fun k => bywashlaw10_alive.f k) true := by
  unfold bywashlaw10_alive.f
  refine Ev.bind (mine_ev 100 (by omega) (by omega)) (Ev.bind (mine_get 100 (by omega) (by omega)) (Ev_bind0 rfl ?_))
  refine Ev.bind (apply_ev (128, 6, 100, 64, 600) _ (by decide)) ?_
  have hz : (strOfNums (flat (mineL 100))).size = 18 := by rw [nums_size, flat_length]; rfl
  refine Ev_pos rfl (Ev_pos (by simp only [hz]; rfl) (Ev_pos rfl (Ev_pos rfl (Ev_pos (by decide) (Ev_pos rfl (Ev_pos ?_ (Ev_pos ?_ (Ev_pos ?_ (Ev_bind0 rfl (Ev_some rfl))))))))))
  · simp [applyv, onev]
  · simp [applyv, onev]
  · simp [applyv, onev]

theorem and255 (x : Int) (h : 0 ≤ x) (h' : x < 2 ^ 62) : Go.bits .and .i64 x 255 = x % 256 := mask63 8 (by omega) x h h'
theorem bigr2_ev (n : Int) (h : 0 ≤ n) (h' : n ≤ 1099511627776) : Ev (fun k => bywashref1_Big.f k n 2) (strOfNums [n / 256 % 256, n % 256]) := Ev_from 3 fun k => by
  have e0 := and255 n h (by omega)
  have e1 := and255 (n / 256) (by omega) (by omega)
  simp [bywashref1_Big.f, bywashref1_Big.l0, wrap64, List.replicate, e0, e1]
theorem bigr4_ev (n : Int) (h : 0 ≤ n) (h' : n ≤ 1099511627776) : Ev (fun k => bywashref1_Big.f k n 4) (strOfNums [n / 16777216 % 256, n / 65536 % 256, n / 256 % 256, n % 256]) := Ev_from 5 fun k => by
  have e0 := and255 n h (by omega)
  have e1 := and255 (n / 256) (by omega) (by omega)
  have e2 := and255 (n / 256 / 256) (by omega) (by omega)
  have e3 := and255 (n / 256 / 256 / 256) (by omega) (by omega)
  have f2 : n / 256 / 256 = n / 65536 := by omega
  have f3 : n / 256 / 256 / 256 = n / 16777216 := by omega
  simp [bywashref1_Big.f, bywashref1_Big.l0, wrap64, List.replicate, e0, e1, e2, e3]
  rw [f3, f2]
def putV (l : List S48) : ByteArray × Bool := if ∀ y ∈ l, okP y then (strOfNums (flat l), true) else ((⟨#[]⟩ : ByteArray), false)
theorem rput_l0 (l : List S48) (hl : l.length ≤ 1000) (d : Nat) : ∀ (i : Nat) (x : ByteArray), l.length ≤ i + d → i ≤ l.length → x.size ≤ 6 * i →
    Ev (fun k => bywashref1_PrefsPut.l0 k l x (i : Int)) (if ∀ y ∈ l.drop i, okP y then (x ++ strOfNums (flat (l.drop i)), true) else ((⟨#[]⟩ : ByteArray), false)) := by
  have done : ∀ (i : Nat) (x : ByteArray), ¬ i < l.length → Ev (fun k => bywashref1_PrefsPut.l0 k l x (i : Int)) (if ∀ y ∈ l.drop i, okP y then (x ++ strOfNums (flat (l.drop i)), true) else ((⟨#[]⟩ : ByteArray), false)) := by
    intro i x hi
    rw [List.drop_eq_nil_of_le (by omega), if_pos (by simp)]
    have : x ++ strOfNums (flat []) = x := app_nil x _ rfl
    rw [this]
    exact Ev.step (fun k => bywashref1_PrefsPut.l0.eq_2 ..) (Ev_neg (by omega) (Ev_some rfl))
  induction d with
  | zero => intro i x h1 h2 _; exact done i x (by omega)
  | succ d ih =>
    intro i x h1 h2 hx
    by_cases hi : i < l.length
    · rw [drop_rd l i hi]
      generalize hq : rd_T48 l (i : Int) = q
      refine Ev.step (fun k => bywashref1_PrefsPut.l0.eq_2 ..) (Ev_pos (by omega) (Ev_pos (by omega) ?_))
      rw [hq]
      have no : ¬ okP q → Ev (fun k => bywashref1_PrefsPut.j1 k l x (i : Int) true) (if ∀ y ∈ q :: l.drop (i + 1), okP y then (x ++ strOfNums (flat (q :: l.drop (i + 1))), true) else ((⟨#[]⟩ : ByteArray), false)) := by
        intro hok
        rw [if_neg (fun h => hok (h q List.mem_cons_self))]
        exact Ev.step (fun k => bywashref1_PrefsPut.j1.eq_2 ..) (Ev_pos rfl (Ev_some rfl))
      refine Ev_ite (fun h => no (fun o => by have := o.1; omega)) fun g1 => ?_
      refine Ev_ite (fun h => no (fun o => by have := o.2.1; omega)) fun g2 => ?_
      refine Ev_ite (fun h => no (fun o => by have := o.2.2.1; omega)) fun g3 => ?_
      by_cases g4 : q.f1 > 4294967295
      · rw [decide_eq_true g4]
        exact no (fun o => by have := o.2.2.2; omega)
      · rw [decide_eq_false g4]
        have hok : okP q := ⟨by omega, by omega, by omega, by omega⟩
        refine Ev.step (fun k => bywashref1_PrefsPut.j1.eq_2 ..) (Ev_neg (by simp) (Ev_pos (by omega) (Ev_pos (by omega) ?_)))
        rw [hq]
        refine Ev.bind (bigr2_ev _ (by omega) (by omega)) (Ev_pos ?_ (Ev.bind (bigr4_ev _ (by omega) (by omega)) (Ev_pos ?_ ?_)))
        · simp only [nums_size, List.length_cons, List.length_nil]; omega
        · simp only [app_size, nums_size, List.length_cons, List.length_nil]; omega
        · rw [wid (x := (i : Int) + 1) (by omega) (by omega)]
          have e : x ++ strOfNums [q.f0 / 256 % 256, q.f0 % 256] ++ strOfNums [q.f1 / 16777216 % 256, q.f1 / 65536 % 256, q.f1 / 256 % 256, q.f1 % 256] = x ++ strOfNums (pbytes q) := by
            rw [app_assoc, nums_app]; rfl
          rw [e]
          have h := ih (i + 1) (x ++ strOfNums (pbytes q)) (by omega) (by omega) (by rw [app_size, nums_size]; show x.size + 6 ≤ _; omega)
          have e2 : (if ∀ y ∈ q :: l.drop (i + 1), okP y then (x ++ strOfNums (flat (q :: l.drop (i + 1))), true) else ((⟨#[]⟩ : ByteArray), false)) = if ∀ y ∈ l.drop (i + 1), okP y then (x ++ strOfNums (pbytes q) ++ strOfNums (flat (l.drop (i + 1))), true) else ((⟨#[]⟩ : ByteArray), false) := by
            rw [flat_cons, app_assoc, nums_app]
            by_cases hh : ∀ y ∈ l.drop (i + 1), okP y
            · rw [if_pos hh, if_pos (fun y hy => by
                rcases List.mem_cons.1 hy with h | h
                · rw [h]; exact hok
                · exact hh y h)]
            · rw [if_neg hh, if_neg (fun h => hh (fun y hy => h y (List.mem_cons_of_mem _ hy)))]
          rw [e2]
          exact h
    · exact done i x hi
theorem rput_ev (l : List S48) (hl : l.length ≤ 1000) : Ev (fun k => bywashref1_PrefsPut.f k l) (putV l) := by
  unfold bywashref1_PrefsPut.f putV
  have := rput_l0 l hl l.length 0 (⟨#[]⟩ : ByteArray) (by omega) (by omega) (by decide)
  rw [List.drop_zero, nil_app] at this
  exact this
theorem putV_ev (l : List S48) (hl : l.length ≤ 1000) : Ev (fun k => prefs_Put.f k l) (putV l) := put_ev l (by omega)
theorem of_step {r : Int} (c : ByteArray) (acc : Int) (i : Nat) (hi : i < c.size) (hc : c.size ≤ 100) (h0 : 0 ≤ acc) (h1 : acc ≤ 1099511627776) (h : Ev (fun k => bywashref1_Of.l0 k c (acc * 256 + nth c i) ((i + 1 : Nat) : Int)) r) :
    Ev (fun k => bywashref1_Of.l0 k c acc (i : Int)) r := by
  have hr := bt_r c (i : Int)
  refine Ev.step (fun k => bywashref1_Of.l0.eq_2 ..) (Ev_pos (by omega) (Ev_pos (by omega) ?_))
  rw [or_byte acc _ h0 h1 hr.1 hr.2, wid (x := (i : Int) + 1) (by omega) (by omega), bt_nth]
  exact h
theorem of_end (c : ByteArray) (acc : Int) (i : Nat) (hi : c.size = i) : Ev (fun k => bywashref1_Of.l0 k c acc (i : Int)) acc :=
  Ev.step (fun k => bywashref1_Of.l0.eq_2 ..) (Ev_neg (by omega) (Ev_some rfl))
theorem of2_ev (c : ByteArray) (hs : c.size = 2) : Ev (fun k => bywashref1_Of.f k c) (nth c 0 * 256 + nth c 1) := by
  have h0 := nth_r c 0
  have h1 := nth_r c 1
  unfold bywashref1_Of.f
  refine of_step c 0 0 (by omega) (by omega) (by omega) (by omega) (of_step c _ 1 (by omega) (by omega) (by omega) (by omega) ?_)
  have := of_end c ((0 * 256 + nth c 0) * 256 + nth c 1) 2 hs
  rw [show nth c 0 * 256 + nth c 1 = (0 * 256 + nth c 0) * 256 + nth c 1 from by omega]
  exact this
theorem of4_ev (c : ByteArray) (hs : c.size = 4) : Ev (fun k => bywashref1_Of.f k c) (((nth c 0 * 256 + nth c 1) * 256 + nth c 2) * 256 + nth c 3) := by
  have h0 := nth_r c 0
  have h1 := nth_r c 1
  have h2 := nth_r c 2
  have h3 := nth_r c 3
  unfold bywashref1_Of.f
  refine of_step c 0 0 (by omega) (by omega) (by omega) (by omega) (of_step c _ 1 (by omega) (by omega) (by omega) (by omega) (of_step c _ 2 (by omega) (by omega) (by omega) (by omega) (of_step c _ 3 (by omega) (by omega) (by omega) (by omega) ?_)))
  have := of_end c ((((0 * 256 + nth c 0) * 256 + nth c 1) * 256 + nth c 2) * 256 + nth c 3) 4 hs
  rw [show ((nth c 0 * 256 + nth c 1) * 256 + nth c 2) * 256 + nth c 3 = (((0 * 256 + nth c 0) * 256 + nth c 1) * 256 + nth c 2) * 256 + nth c 3 from by omega]
  exact this
theorem cut_cut (b : ByteArray) (i : Nat) (hi : i + 6 ≤ b.size) : (b.extract i b.size).extract 6 (b.extract i b.size).size = b.extract (i + 6) b.size := by
  have s1 := cut_size b i b.size (by omega) (Nat.le_refl _)
  have n1 : ∀ n, i + n < b.size → nth (b.extract i b.size) n = nth b (i + n) := fun n h => nth_cut b i b.size n h (Nat.le_refl _)
  have s3 := cut_size b (i + 6) b.size (by omega) (Nat.le_refl _)
  have n3 : ∀ n, i + 6 + n < b.size → nth (b.extract (i + 6) b.size) n = nth b (i + 6 + n) := fun n h => nth_cut b (i + 6) b.size n h (Nat.le_refl _)
  generalize b.extract i b.size = c at *
  generalize b.extract (i + 6) b.size = e at *
  have s2 := cut_size c 6 c.size (by omega) (Nat.le_refl _)
  refine nth_ext (by omega) (fun n hn => ?_)
  rw [nth_cut c 6 c.size n (by omega) (Nat.le_refl _), n1 (6 + n) (by omega), n3 n (by omega)]
  congr 1; omega
def getV (b : ByteArray) : List S48 × Bool := if b.size % 6 = 0 then (getl (b.size / 6) b, true) else ([], false)
theorem rget_l0 (b : ByteArray) (n : Nat) (hb : b.size = 6 * n) (hn : n ≤ 1000) (d : Nat) : ∀ (j : Nat) (acc : List S48), n = j + d → acc.length ≤ j →
    Ev (fun k => bywashref1_PrefsGet.l0 k b acc ((6 * j : Nat) : Int)) (acc ++ getl d (b.extract (6 * j) b.size), true) := by
  induction d with
  | zero =>
    intro j acc h1 h2
    refine Ev.step (fun k => bywashref1_PrefsGet.l0.eq_2 ..) (Ev_neg (by omega) (Ev_some ?_))
    show (acc, true) = (acc ++ [], true)
    rw [List.append_nil]
  | succ d ih =>
    intro j acc h1 h2
    have w2 : wrap64 (((6 * j : Nat) : Int) + 2) = ((6 * j + 2 : Nat) : Int) := by rw [wid (by omega) (by omega)]; omega
    have w6 : wrap64 (((6 * j : Nat) : Int) + 6) = ((6 * j + 6 : Nat) : Int) := by rw [wid (by omega) (by omega)]; omega
    refine Ev.step (fun k => bywashref1_PrefsGet.l0.eq_2 ..) (Ev_pos (by omega) (Ev_pos (by omega) ?_))
    rw [w2, w6]
    simp only [Int.toNat_natCast]
    refine Ev_pos (by omega) (Ev_pos (by omega) (Ev.bind (of2_ev _ (by rw [cut_size _ _ _ (by omega) (by omega)]; omega)) (Ev_pos (by omega) (Ev_pos (by omega) (Ev_pos (by omega) (Ev.bind (of4_ev _ (by rw [cut_size _ _ _ (by omega) (by omega)]; omega)) (Ev_pos (by omega) ?_)))))))
    rw [nth_cut b _ _ 0 (by omega) (by omega), nth_cut b _ _ 1 (by omega) (by omega), nth_cut b _ _ 0 (by omega) (by omega), nth_cut b _ _ 1 (by omega) (by omega), nth_cut b _ _ 2 (by omega) (by omega), nth_cut b _ _ 3 (by omega) (by omega)]
    have h := ih (j + 1) (acc ++ [rdv (b.extract (6 * j) b.size)]) (by omega) (by rw [List.length_append]; show acc.length + 1 ≤ _; omega)
    have e : rdv (b.extract (6 * j) b.size) = ⟨nth b (6 * j + 0) * 256 + nth b (6 * j + 1), ((nth b (6 * j + 2 + 0) * 256 + nth b (6 * j + 2 + 1)) * 256 + nth b (6 * j + 2 + 2)) * 256 + nth b (6 * j + 2 + 3)⟩ := by
      unfold rdv
      rw [nth_cut b _ _ 0 (by omega) (Nat.le_refl _), nth_cut b _ _ 1 (by omega) (Nat.le_refl _), nth_cut b _ _ 2 (by omega) (Nat.le_refl _), nth_cut b _ _ 3 (by omega) (Nat.le_refl _), nth_cut b _ _ 4 (by omega) (Nat.le_refl _), nth_cut b _ _ 5 (by omega) (Nat.le_refl _)]
    rw [← e]
    have e2 : getl (d + 1) (b.extract (6 * j) b.size) = rdv (b.extract (6 * j) b.size) :: getl d (b.extract (6 * (j + 1)) b.size) := by
      show rdv (b.extract (6 * j) b.size) :: getl d ((b.extract (6 * j) b.size).extract 6 (b.extract (6 * j) b.size).size) = _
      rw [cut_cut b (6 * j) (by omega), show 6 * j + 6 = 6 * (j + 1) from by omega]
    rw [e2]
    rw [List.append_assoc] at h
    exact h
theorem rget_ev (b : ByteArray) (hb : b.size ≤ 6000) : Ev (fun k => bywashref1_PrefsGet.f k b) (getV b) := by
  unfold bywashref1_PrefsGet.f getV
  by_cases h : b.size % 6 = 0
  · rw [if_pos h]
    have h2 := rget_l0 b (b.size / 6) (by omega) (by omega) (b.size / 6) 0 [] (by omega) (Nat.le_refl _)
    rw [Nat.mul_zero, cut_all, List.nil_append] at h2
    exact Ev_pos (by omega) h2
  · rw [if_neg h]
    exact Ev_neg (by omega) (Ev_some rfl)
theorem getV_ev (b : ByteArray) (hb : b.size ≤ 6000) : Ev (fun k => prefs_Get.f k b) (getV b) := by
  unfold getV
  by_cases h : b.size % 6 = 0
  · rw [if_pos h]; exact get_ev (b.size / 6) b (by omega) (by omega)
  · rw [if_neg h]; exact get_no b h
theorem getV_put (l : List S48) (h : ∀ y ∈ l, okP y) : getV (strOfNums (flat l)) = (l, true) := by
  unfold getV
  have hs : (strOfNums (flat l)).size = 6 * l.length := by rw [nums_size, flat_length]
  rw [if_pos (by omega), hs, Nat.mul_div_cancel_left _ (by decide), getl_put l h]
theorem getV_length (b : ByteArray) : (getV b).1.length ≤ b.size / 6 := by
  unfold getV
  split
  · show (getl _ _).length ≤ _; rw [getl_length]; exact Nat.le_refl _
  · exact Nat.zero_le _
theorem rapply_l0 (l : List S48) (hl : l.length ≤ 1000) (p0 : P5) (d : Nat) : ∀ (i : Nat) (p : P5), l.length ≤ i + d → i ≤ l.length →
    Ev (fun k => bywashref1_Apply.l0 k l (i : Int) p.1 p.2.1 p.2.2.1 p.2.2.2.1 p.2.2.2.2 p0.1 p0.2.1 p0.2.2.1 p0.2.2.2.1 p0.2.2.2.2) (applyv p0 p (l.drop i)) := by
  have done : ∀ (i : Nat) (p : P5), ¬ i < l.length → Ev (fun k => bywashref1_Apply.l0 k l (i : Int) p.1 p.2.1 p.2.2.1 p.2.2.2.1 p.2.2.2.2 p0.1 p0.2.1 p0.2.2.1 p0.2.2.2.1 p0.2.2.2.2) (applyv p0 p (l.drop i)) := by
    intro i p hi
    rw [List.drop_eq_nil_of_le (by omega)]
    exact Ev.step (fun k => bywashref1_Apply.l0.eq_2 ..) (Ev_neg (by omega) (Ev_some rfl))
  induction d with
  | zero => intro i p h1 h2; exact done i p (by omega)
  | succ d ih =>
    intro i p h1 h2
    by_cases hi : i < l.length
    · rw [drop_rd l i hi]
      refine Ev.step (fun k => bywashref1_Apply.l0.eq_2 ..) (Ev_pos (by omega) (Ev_pos (by omega) ?_))
      rw [wid (x := (i : Int) + 1) (by omega) (by omega)]
      generalize rd_T48 l (i : Int) = q
      have next : ∀ p' : P5, (onev p q.f0 q.f1) = (0, 0, p') → Ev (fun k => bywashref1_Apply.l0 k l ((i + 1 : Nat) : Int) p'.1 p'.2.1 p'.2.2.1 p'.2.2.2.1 p'.2.2.2.2 p0.1 p0.2.1 p0.2.2.1 p0.2.2.2.1 p0.2.2.2.2) (applyv p0 p (q :: l.drop (i + 1))) := by
        intro p' e
        have h := ih (i + 1) p' (by omega) (by omega)
        unfold applyv
        rw [e, if_pos rfl]
        exact h
      have stop : ∀ (c e : Int) (p' : P5), (onev p q.f0 q.f1) = (c, e, p') → ¬ e = 0 → Ev (fun _ => some (p0.1, p0.2.1, p0.2.2.1, p0.2.2.2.1, p0.2.2.2.2, c, e)) (applyv p0 p (q :: l.drop (i + 1))) := by
        intro c e p' h1 h2
        unfold applyv
        rw [h1, if_neg h2]
        exact Ev_some rfl
      have w1 : ((i : Int) + 1) = ((i + 1 : Nat) : Int) := by omega
      rw [w1]
      refine Ev_ite (fun g => ?_) fun g1 => ?_
      · exact next (q.f1, p.2.1, p.2.2.1, p.2.2.2.1, p.2.2.2.2) (by unfold onev; rw [if_pos g])
      refine Ev_ite (fun g => ?_) fun g3 => ?_
      · exact next (p.1, mn q.f1 6, p.2.2.1, p.2.2.2.1, p.2.2.2.2) (by unfold onev; rw [if_neg g1, if_pos g])
      refine Ev_ite (fun g => ?_) fun g4 => ?_
      · refine Ev_ite (fun h => ?_) fun h => ?_
        · exact stop 3 9 _ (by unfold onev; rw [if_neg g1, if_neg g3, if_pos g, if_pos h]) (by decide)
        · exact next (p.1, p.2.1, q.f1, p.2.2.2.1, p.2.2.2.2) (by unfold onev; rw [if_neg g1, if_neg g3, if_pos g, if_neg h])
      refine Ev_ite (fun g => ?_) fun g5 => ?_
      · refine Ev_ite (fun h => ?_) fun h => Ev_ite (fun h2 => ?_) fun h2 => ?_
        · exact stop 1 11 _ (by unfold onev; rw [if_neg g1, if_neg g3, if_neg g4, if_neg (by omega), if_pos g, if_neg (by omega)]) (by decide)
        · exact stop 1 11 _ (by unfold onev; rw [if_neg g1, if_neg g3, if_neg g4, if_neg (by omega), if_pos g, if_neg (by omega)]) (by decide)
        · exact next (p.1, p.2.1, p.2.2.1, mn q.f1 512, p.2.2.2.2) (by unfold onev; rw [if_neg g1, if_neg g3, if_neg g4, if_neg (by omega), if_pos g, if_pos (by omega)])
      refine Ev_ite (fun g => ?_) fun g6 => ?_
      · exact next (p.1, p.2.1, p.2.2.1, p.2.2.2.1, q.f1) (by unfold onev; rw [if_neg g1, if_neg g3, if_neg g4, if_pos g])
      refine Ev_ite (fun g => ?_) fun g2 => ?_
      · refine Ev_ite (fun h => ?_) fun h => ?_
        · exact next p (by unfold onev; rw [if_neg g1, if_neg g3, if_neg g4, if_neg g6, if_neg g5, if_pos g, if_pos h])
        · exact stop 1 11 _ (by unfold onev; rw [if_neg g1, if_neg g3, if_neg g4, if_neg g6, if_neg g5, if_pos g, if_neg h]) (by decide)
      · exact next p (by unfold onev; rw [if_neg g1, if_neg g3, if_neg g4, if_neg g6, if_neg g5, if_neg g2])
    · exact done i p hi
theorem rapply_ev (p : P5) (l : List S48) (hl : l.length ≤ 1000) : Ev (fun k => bywashref1_Apply.f k p.1 p.2.1 p.2.2.1 p.2.2.2.1 p.2.2.2.2 l) (applyv p p l) := by
  unfold bywashref1_Apply.f
  exact rapply_l0 l hl p l.length 0 p (by omega) (by omega)
def mineV (w : Int) : ByteArray × Bool := if 1 ≤ w ∧ w ≤ 65535 then (strOfNums (flat (mineL w)), true) else ((⟨#[]⟩ : ByteArray), false)
theorem mineV_ev (w : Int) : Ev (fun k => prefs_Mine.f k w) (mineV w) := by
  unfold mineV
  by_cases h : 1 ≤ w ∧ w ≤ 65535
  · rw [if_pos h]; exact mine_ev w h.1 h.2
  · rw [if_neg h]; exact mine_no w h
theorem rmine_ev (w : Int) : Ev (fun k => bywashref1_Mine.f k w) (mineV w) := by
  unfold bywashref1_Mine.f mineV
  refine Ev_ite (fun h => ?_) fun h1 => Ev_ite (fun h => ?_) fun h2 => ?_
  · rw [if_neg (by omega)]; exact Ev_some rfl
  · rw [if_neg (by omega)]; exact Ev_some rfl
  · have h3 : 1 ≤ w ∧ w ≤ 65535 := by omega
    rw [if_pos h3]
    have h4 := rput_ev (mineL w) (by show 3 ≤ 1000; omega)
    unfold putV at h4
    rw [if_pos (mine_ok w h3.1 h3.2)] at h4
    exact Ev.bind h4 (Ev_some rfl)

end Go.Proofs.Ytfeihaoppahmnaa.Pure
