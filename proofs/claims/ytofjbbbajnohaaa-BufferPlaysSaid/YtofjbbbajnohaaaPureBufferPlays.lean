/- Whatever is put in, taken out, ended, in every order: each answer. Conditions: those of the statement itself. -/
import Derived.Test.YtofjbbbajnohaaaPBufferPlaysx0
import Derived.Test.YtofjbbbajnohaaaPBufferPlaysx1
import Derived.Test.YtofjbbbajnohaaaPBufferPlaysx2
import Derived.Test.YtofjbbbajnohaaaPBufferPlaysx3
import Derived.Test.YtofjbbbajnohaaaStaBufferPlays
import Derived.Test.YtofjbbbajnohaaaAid
namespace Go.Proofs.Ytofjbbbajnohaaa.Pure
open Go.RowKit Go.Proofs.YtofjbbbajnohaaaW.PrintWords Go.Proofs.YtofjbbbajnohaaaW.PrintLast Go.Proofs.YtofjbbbajnohaaaW.PrintMore Go.Proofs.Ytofjbbbajnohaaa.Aid Go.Proofs.Ytofjbbbajnohaaa.PBufferPlays Go.Proofs.Ytofjbbbajnohaaa.StaBufferPlays
set_option linter.unusedVariables false
set_option linter.unusedSimpArgs false

theorem tl_eq (a : ByteArray) : a.toList = a.data.toList := ByteArray.toList_eq a
theorem ba_ext {a b : ByteArray} (h : a.data = b.data) : a = b := by cases a; cases b; cases h; rfl
theorem ba_of_list {a b : ByteArray} (h : a.toList = b.toList) : a = b := by
  rw [tl_eq, tl_eq] at h
  exact ba_ext (Array.toList_inj.1 h)
theorem tl_nil (b : ByteArray) : b.toList = ([] : List UInt8) ↔ b.size = 0 := by
  rw [tl_eq]
  constructor
  · intro h
    have := congrArg List.length h
    rw [Array.length_toList] at this
    exact this
  · intro h
    have : b.data.toList.length = 0 := by rw [Array.length_toList]; exact h
    exact List.length_eq_zero_iff.1 this
theorem cut_join (b : ByteArray) (m : Nat) (h : m ≤ b.size) : b.extract 0 m ++ b.extract m b.size = b := by
  apply ba_ext
  have hs : b.size = b.data.size := rfl
  rw [ByteArray.data_append, ByteArray.data_extract, ByteArray.data_extract, Array.extract_append_extract]
  have e1 : min 0 m = 0 := by omega
  have e2 : max m b.size = b.data.size := by rw [← hs]; omega
  rw [e1, e2, Array.extract_size]
theorem cut_size (b : ByteArray) (m : Nat) (h : m ≤ b.size) : (b.extract 0 m).size = m ∧ (b.extract m b.size).size = b.size - m := by
  rw [ByteArray.size_extract, ByteArray.size_extract]
  omega
theorem cut_zero (b : ByteArray) : b.extract 0 0 = ⟨#[]⟩ ∧ b.extract 0 b.size = b := by
  have hz : (b.extract 0 0).size = 0 := by rw [ByteArray.size_extract]; omega
  refine ⟨?_, ?_⟩
  · apply ba_of_list
    rw [(tl_nil _).2 hz, (tl_nil _).2 rfl]
  · apply ba_ext
    rw [ByteArray.data_extract]
    exact Array.extract_size
theorem app_size (a b : ByteArray) : (a ++ b).size = a.size + b.size := ByteArray.size_append
theorem app_assoc (a b c : ByteArray) : a ++ b ++ c = a ++ (b ++ c) := by
  apply ba_ext
  simp only [ByteArray.data_append, Array.append_assoc]
theorem app_nil (a : ByteArray) (b : ByteArray) (h : b.size = 0) : a ++ b = a := by
  apply ba_ext
  rw [ByteArray.data_append]
  have : b.data = #[] := Array.eq_empty_of_size_eq_zero h
  rw [this, Array.append_empty]
theorem nil_app (b : ByteArray) : (⟨#[]⟩ : ByteArray) ++ b = b := by
  apply ba_ext
  rw [ByteArray.data_append]
  exact Array.empty_append
/-- How much Get takes. -/
def many (b : ByteArray) (n : Int) : Nat := (min (max n 0) (b.size : Int)).toNat
theorem many_le (b : ByteArray) (n : Int) : many b n ≤ b.size := by unfold many; omega
theorem get_run (b : ByteArray) (most : Int) (e : Bool) (n : Int) : buffer_Buffer_Get.f b most e n = some (b.extract 0 (many b n), b.extract (many b n) b.size, most, e) := by
  unfold buffer_Buffer_Get.f buffer_Buffer_Len.f
  simp only [Option.bind_some]
  have em : mn (mx n 0) (b.size : Int) = min (max n 0) (b.size : Int) := by rw [mn_eq, mx_eq]
  rw [em]
  by_cases hz : min (max n 0) (b.size : Int) = 0
  · have : many b n = 0 := by unfold many; omega
    rw [if_pos hz, this, (cut_zero b).1, (cut_zero b).2]
  · rw [if_neg hz, if_pos (by omega), if_pos (by omega)]
    rfl
theorem put_no (b : ByteArray) (most : Int) (s : ByteArray) : buffer_Buffer_Put.f b most true s = some (false, b, most, true) := rfl
theorem put_yes (b : ByteArray) (most : Int) (s : ByteArray) (hm : most ≤ 9223372036854775807) (h : (b.size : Int) + (s.size : Int) ≤ most) : buffer_Buffer_Put.f b most false s = some (true, b ++ s, most, false) := by
  unfold buffer_Buffer_Put.f buffer_Buffer_Ended.f
  simp only [Option.bind_some, Bool.false_eq_true, if_false]
  rw [wid (by omega) (by omega), if_neg (by omega), if_pos (by omega)]
theorem put_full (b : ByteArray) (most : Int) (s : ByteArray) (hm : most ≤ 9223372036854775807) (hb : (b.size : Int) ≤ most) (h : ¬ (b.size : Int) + (s.size : Int) ≤ most) : buffer_Buffer_Put.f b most false s = some (false, b, most, false) := by
  unfold buffer_Buffer_Put.f buffer_Buffer_Ended.f
  simp only [Option.bind_some, Bool.false_eq_true, if_false]
  rw [wid (by omega) (by omega), if_pos (by omega)]
theorem nil_of_size {c : ByteArray} (h : c.size = 0) : c = ⟨#[]⟩ := ba_of_list (by rw [(tl_nil c).2 h, (tl_nil _).2 rfl])
theorem new_run (most : Int) (h : 1 ≤ most) : buffer_New.f most = some (⟨#[]⟩, most, false) := by
  unfold buffer_New.f; rw [if_neg (by omega)]
theorem done_run (b : ByteArray) (most : Int) (e : Bool) : buffer_Buffer_Done.f b most e = some ((e && decide (b.size = 0)), b, most, e) := by
  unfold buffer_Buffer_Done.f buffer_Buffer_Ended.f buffer_Buffer_Len.f
  cases e with
  | true =>
    simp only [Option.bind_some, if_true, Bool.true_and]
    by_cases h : b.size = 0 <;> simp [h]
  | false => simp

theorem drop_run (b : ByteArray) (most : Int) (e : Bool) : ∃ c : ByteArray, c.size = 0 ∧ buffer_Buffer_Drop.f b most e = some ((b.size : Int), c, most, true) := by
  refine ⟨b.extract b.size b.size, by rw [ByteArray.size_extract]; omega, ?_⟩
  unfold buffer_Buffer_Drop.f buffer_Buffer_Len.f
  simp only [Option.bind_some]
  rw [get_run]
  have : many b (b.size : Int) = b.size := by unfold many; omega
  rw [this]
  cases e <;> rfl

theorem alive_ok : bywashlaw13_alive.f = some true := by
  have h : Ev (fun _ => bywashlaw13_alive.f) true := by
    unfold bywashlaw13_alive.f
    refine Ev_bind0 (new_run 5 (by omega)) ?_
    refine Ev_bind0 (put_yes _ 5 _ (by omega) (by decide)) (Ev_pos rfl ?_)
    refine Ev_bind0 (put_full _ 5 _ (by omega) (by decide) (by decide)) (Ev_neg (by simp) ?_)
    refine Ev_bind0 (get_run _ _ _ _) ?_
    refine Ev_pos ?_ ?_
    · rw [tl_eq]; decide
    refine Ev_bind0 rfl (Ev_pos (by decide) ?_)
    refine Ev_bind0 rfl (Ev_pos rfl (Ev_bind0 rfl (Ev_neg (by simp) (Ev_bind0 rfl (Ev_neg (by simp) (Ev_bind0 (done_run _ _ _) ?_))))))
    exact Ev_some rfl
  obtain ⟨K, hK⟩ := h
  exact hK K (Nat.le_refl _)
theorem alive_ev : Ev (fun _ => bywashlaw13_alive.f) true := Ev_const alive_ok

theorem rd_at (l : List S33) (i : Nat) (h : i < l.length) : rd_T33 l (i : Int) = l[i] := by simp [rd_T33, List.getD, h]
theorem plays_l0 (most : Int) (h1 : 1 ≤ most) (h2 : most ≤ 9223372036854775807) (l : List S33) (hl : l.length ≤ 100) (d : Nat) :
    ∀ (i : Nat) (b : ByteArray) (e : Bool), l.length - i = d → (b.size : Int) ≤ most → b.size ≤ 300 * i → i ≤ l.length → Ev (fun k => bywashlaw13_BufferPlays.l0 k most b e l (l.length : Int) (i : Int) b most e) true := by
  induction d with
  | zero =>
    intro i b e hd _ _ _
    exact Ev.step (fun k => bywashlaw13_BufferPlays.l0.eq_2 ..) (Ev_neg (by omega) (Ev_some rfl))
  | succ d ih =>
    intro i b e hd hb hs hil
    refine Ev.step (fun k => bywashlaw13_BufferPlays.l0.eq_2 ..) (Ev_pos (by omega) (Ev_pos (by omega) (Ev_pos (by omega) (Ev_ite (fun _ => Ev_some rfl) fun h3 => ?_))))
    generalize rd_T33 l (i : Int) = o at *
    have j3 : ∀ (c : ByteArray) (e : Bool), (c.size : Int) ≤ most → c.size ≤ 300 * (i + 1) → Ev (fun k => bywashlaw13_BufferPlays.j3 k most c e l (l.length : Int) (i : Int) c most e) true := by
      intro c e hc hcs
      have hn := ih (i + 1) c e (by omega) hc hcs (by omega)
      refine Ev.step (fun k => bywashlaw13_BufferPlays.j3.eq_2 ..) (Ev_bind0 rfl (Ev_pos rfl (Ev_bind0 rfl ?_)))
      rw [wid (x := (i : Int) + 1) (by omega) (by omega)]
      cases e with
      | true =>
        refine Ev_pos rfl (Ev_pos rfl (Ev_bind0 (done_run _ _ _) ?_))
        by_cases hz : c.size = 0
        · refine Ev_pos ?_ (Ev_pos ((tl_nil c).2 hz) hn)
          show (true && decide (c.size = 0)) = true
          rw [decide_eq_true hz]; rfl
        · refine Ev_neg ?_ (Ev_neg (fun h => hz ((tl_nil c).1 h)) hn)
          show ¬ (true && decide (c.size = 0)) = true
          rw [decide_eq_false hz]; simp
      | false => exact Ev_neg (by simp) (Ev_neg (by simp) (Ev_bind0 (done_run _ _ _) (Ev_neg (by simp) hn)))
    refine Ev_ite (fun k1 => ?_) fun k1 => Ev_ite (fun k2 => ?_) fun k2 => Ev_ite (fun k3 => ?_) fun k3 => Ev_ite (fun k4 => ?_) fun k4 => j3 b e hb (by omega)
    · have j2 : ∀ q : Bool, q = (!e && decide ((b.size : Int) + (o.f2.size : Int) ≤ most)) → Ev (fun k => bywashlaw13_BufferPlays.j2 k most b e q l (l.length : Int) (i : Int) b most e o.f0 o.f1 o.f2) true := by
        intro q hq
        refine Ev.step (fun k => bywashlaw13_BufferPlays.j2.eq_2 ..) ?_
        cases e with
        | true =>
          refine Ev_bind0 (put_no _ _ _) (Ev_neg (by simp) (Ev_neg (by rw [hq]; simp) (j3 b true hb (by omega))))
        | false =>
          simp only [Bool.not_false, Bool.true_and] at hq
          by_cases hf : (b.size : Int) + (o.f2.size : Int) ≤ most
          · refine Ev_bind0 (put_yes b most o.f2 h2 hf) (Ev_pos rfl (Ev_pos (by rw [hq]; exact decide_eq_true hf) (Ev_pos (by omega) ?_)))
            exact j3 (b ++ o.f2) false (by rw [app_size]; omega) (by rw [app_size]; omega)
          · refine Ev_bind0 (put_full b most o.f2 h2 hb hf) (Ev_neg (by simp) (Ev_neg (by rw [hq, decide_eq_false hf]; simp) (j3 b false hb (by omega))))
      refine Ev_ite (fun he => j2 _ (by rw [he]; rfl)) fun he => ?_
      have he' : e = false := by simpa using he
      refine Ev_ite (fun hle => ?_) fun hle => j2 _ (by rw [decide_eq_false (by omega)]; simp)
      rw [wid (x := most - (o.f2.size : Int)) (by omega) (by omega)]
      refine j2 _ ?_
      rw [he']
      show decide _ = (true && decide _)
      rw [Bool.true_and]
      exact decide_eq_decide.2 (by omega)
    · have em : mn (mx o.f1 0) (b.size : Int) = min (max o.f1 0) (b.size : Int) := by rw [mn_eq, mx_eq]
      rw [em]
      have hle := many_le b o.f1
      have hcz := cut_size b (many b o.f1) hle
      refine Ev_bind0 (get_run _ _ _ _) (Ev_pos (by omega) (Ev_pos (by omega) (Ev_pos rfl ?_)))
      exact j3 (b.extract (many b o.f1) b.size) e (by rw [hcz.2]; omega) (by rw [hcz.2]; omega)
    · cases e with
      | true => exact Ev_bind0 rfl (Ev_neg (by simp) (Ev_pos rfl (j3 b true hb (by omega))))
      | false => exact Ev_bind0 rfl (Ev_pos rfl (Ev_neg (by simp) (j3 b true hb (by omega))))
    · obtain ⟨c, hc, hr⟩ := drop_run b most e
      have hcn := nil_of_size hc
      subst hcn
      refine Ev_bind0 hr (Ev_pos rfl ?_)
      exact j3 ⟨#[]⟩ true (by rw [hc]; omega) (by rw [hc]; omega)
/-- Where there is a buffer. -/
theorem BufferPlays_some : ∀ (a0 : Int) (l1 : List S33), (Lit.int .i64 a0).wf = true → (l1.length > 100 ∨ 1 ≤ a0) → ∃ k, bywashlaw13_BufferPlays.f k a0 l1 = some true := by
  intro most l wm hor
  have hm := wf_range wm
  have j0_true : Ev (fun k => bywashlaw13_BufferPlays.j0 k most l true) true :=
    Ev.step (fun k => bywashlaw13_BufferPlays.j0.eq_2 ..) (Ev_pos rfl (Ev.bind alive_ev (Ev_some rfl)))
  refine Ev.rounds ?_
  unfold bywashlaw13_BufferPlays.f
  refine Ev_ite (fun _ => j0_true) fun h1 => ?_
  refine Ev.bind alive_ev ?_
  have h2 : 1 ≤ most := by omega
  refine Ev.step (fun k => bywashlaw13_BufferPlays.j0.eq_2 ..) (Ev_neg (by simp) (Ev_bind0 (new_run most h2) (Ev_neg (by omega) ?_)))
  exact plays_l0 most h2 hm.2 l (by omega) l.length 0 ⟨#[]⟩ false (by omega) (by show (0 : Int) ≤ most; omega) (by show 0 ≤ _; omega) (by omega)

end Go.Proofs.Ytofjbbbajnohaaa.Pure
