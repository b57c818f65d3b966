/- Behind its end nothing is taken; it is done when all is taken out. Conditions: those of the statement itself. -/
import Derived.Test.YtofjbbbajnohaaaPBufferEndsx0
import Derived.Test.YtofjbbbajnohaaaPBufferEndsx1
import Derived.Test.YtofjbbbajnohaaaPBufferEndsx2
import Derived.Test.YtofjbbbajnohaaaPBufferEndsx3
import Derived.Test.YtofjbbbajnohaaaAid
namespace Go.Proofs.Ytofjbbbajnohaaa.Pure
open Go.RowKit Go.Proofs.YtofjbbbajnohaaaW.PrintWords Go.Proofs.YtofjbbbajnohaaaW.PrintLast Go.Proofs.YtofjbbbajnohaaaW.PrintMore Go.Proofs.Ytofjbbbajnohaaa.Aid Go.Proofs.Ytofjbbbajnohaaa.PBufferEnds
set_option linter.unusedVariables false
set_option linter.unusedSimpArgs false

theorem tl_eq (a : ByteArray) : a.toList = a.data.toList := ByteArray.toList_eq a
theorem ba_ext {a b : ByteArray} (h : a.data = b.data) : a = b := by cases a; cases b; cases h; rfl
theorem ba_of_list {a b : ByteArray} (h : a.toList = b.toList) : a = b := by
  rw [tl_eq, tl_eq] at h
  exact ba_ext (Array.toList_inj.1 h)
theorem tl_nil (b : ByteArray) : b.toList = ([] : List UInt8) ↔ b.size = 0 := by
  rw [tl_eq]
  constructor
  · intro h
    have := congrArg List.length h
    rw [Array.length_toList] at this
    exact this
  · intro h
    have : b.data.toList.length = 0 := by rw [Array.length_toList]; exact h
    exact List.length_eq_zero_iff.1 this
theorem cut_join (b : ByteArray) (m : Nat) (h : m ≤ b.size) : b.extract 0 m ++ b.extract m b.size = b := by
  apply ba_ext
  have hs : b.size = b.data.size := rfl
  rw [ByteArray.data_append, ByteArray.data_extract, ByteArray.data_extract, Array.extract_append_extract]
  have e1 : min 0 m = 0 := by omega
  have e2 : max m b.size = b.data.size := by rw [← hs]; omega
  rw [e1, e2, Array.extract_size]
theorem cut_size (b : ByteArray) (m : Nat) (h : m ≤ b.size) : (b.extract 0 m).size = m ∧ (b.extract m b.size).size = b.size - m := by
  rw [ByteArray.size_extract, ByteArray.size_extract]
  omega
theorem cut_zero (b : ByteArray) : b.extract 0 0 = ⟨#[]⟩ ∧ b.extract 0 b.size = b := by
  have hz : (b.extract 0 0).size = 0 := by rw [ByteArray.size_extract]; omega
  refine ⟨?_, ?_⟩
  · apply ba_of_list
    rw [(tl_nil _).2 hz, (tl_nil _).2 rfl]
  · apply ba_ext
    rw [ByteArray.data_extract]
    exact Array.extract_size
theorem app_size (a b : ByteArray) : (a ++ b).size = a.size + b.size := ByteArray.size_append
theorem app_assoc (a b c : ByteArray) : a ++ b ++ c = a ++ (b ++ c) := by
  apply ba_ext
  simp only [ByteArray.data_append, Array.append_assoc]
theorem app_nil (a : ByteArray) (b : ByteArray) (h : b.size = 0) : a ++ b = a := by
  apply ba_ext
  rw [ByteArray.data_append]
  have : b.data = #[] := Array.eq_empty_of_size_eq_zero h
  rw [this, Array.append_empty]
theorem nil_app (b : ByteArray) : (⟨#[]⟩ : ByteArray) ++ b = b := by
  apply ba_ext
  rw [ByteArray.data_append]
  exact Array.empty_append
/-- How much Get takes. -/
def many (b : ByteArray) (n : Int) : Nat := (min (max n 0) (b.size : Int)).toNat
theorem many_le (b : ByteArray) (n : Int) : many b n ≤ b.size := by unfold many; omega
theorem get_run (b : ByteArray) (most : Int) (e : Bool) (n : Int) : buffer_Buffer_Get.f b most e n = some (b.extract 0 (many b n), b.extract (many b n) b.size, most, e) := by
  unfold buffer_Buffer_Get.f buffer_Buffer_Len.f
  simp only [Option.bind_some]
  have em : mn (mx n 0) (b.size : Int) = min (max n 0) (b.size : Int) := by rw [mn_eq, mx_eq]
  rw [em]
  by_cases hz : min (max n 0) (b.size : Int) = 0
  · have : many b n = 0 := by unfold many; omega
    rw [if_pos hz, this, (cut_zero b).1, (cut_zero b).2]
  · rw [if_neg hz, if_pos (by omega), if_pos (by omega)]
    rfl
theorem put_no (b : ByteArray) (most : Int) (s : ByteArray) : buffer_Buffer_Put.f b most true s = some (false, b, most, true) := rfl
theorem put_yes (b : ByteArray) (most : Int) (s : ByteArray) (hm : most ≤ 9223372036854775807) (h : (b.size : Int) + (s.size : Int) ≤ most) : buffer_Buffer_Put.f b most false s = some (true, b ++ s, most, false) := by
  unfold buffer_Buffer_Put.f buffer_Buffer_Ended.f
  simp only [Option.bind_some, Bool.false_eq_true, if_false]
  rw [wid (by omega) (by omega), if_neg (by omega), if_pos (by omega)]
theorem put_full (b : ByteArray) (most : Int) (s : ByteArray) (hm : most ≤ 9223372036854775807) (hb : (b.size : Int) ≤ most) (h : ¬ (b.size : Int) + (s.size : Int) ≤ most) : buffer_Buffer_Put.f b most false s = some (false, b, most, false) := by
  unfold buffer_Buffer_Put.f buffer_Buffer_Ended.f
  simp only [Option.bind_some, Bool.false_eq_true, if_false]
  rw [wid (by omega) (by omega), if_pos (by omega)]
theorem nil_of_size {c : ByteArray} (h : c.size = 0) : c = ⟨#[]⟩ := ba_of_list (by rw [(tl_nil c).2 h, (tl_nil _).2 rfl])
theorem new_run (most : Int) (h : 1 ≤ most) : buffer_New.f most = some (⟨#[]⟩, most, false) := by
  unfold buffer_New.f; rw [if_neg (by omega)]
theorem done_run (b : ByteArray) (most : Int) (e : Bool) : buffer_Buffer_Done.f b most e = some ((e && decide (b.size = 0)), b, most, e) := by
  unfold buffer_Buffer_Done.f buffer_Buffer_Ended.f buffer_Buffer_Len.f
  cases e with
  | true =>
    simp only [Option.bind_some, if_true, Bool.true_and]
    by_cases h : b.size = 0 <;> simp [h]
  | false => simp

theorem drop_run (b : ByteArray) (most : Int) (e : Bool) : ∃ c : ByteArray, c.size = 0 ∧ buffer_Buffer_Drop.f b most e = some ((b.size : Int), c, most, true) := by
  refine ⟨b.extract b.size b.size, by rw [ByteArray.size_extract]; omega, ?_⟩
  unfold buffer_Buffer_Drop.f buffer_Buffer_Len.f
  simp only [Option.bind_some]
  rw [get_run]
  have : many b (b.size : Int) = b.size := by unfold many; omega
  rw [this]
  cases e <;> rfl

theorem aliveJ (x : Bool) : Ev (fun k => bywashlaw13_alive.j0 k x) x := Ev.step (fun k => bywashlaw13_alive.j0.eq_2 ..) (Ev_some rfl)
theorem alive_ev : Ev (fun k => bywashlaw13_alive.f k) true := by
  unfold bywashlaw13_alive.f
  refine Ev_bind0 (new_run 5 (by omega)) ?_
  refine Ev_bind0 (put_yes _ 5 _ (by omega) (by decide)) (Ev_pos rfl ?_)
  refine Ev_bind0 (put_full _ 5 _ (by omega) (by decide) (by decide)) (Ev_neg (by simp) ?_)
  refine Ev_bind0 (get_run _ _ _ _) ?_
  refine Ev_pos ?_ ?_
  · rw [tl_eq]; decide
  refine Ev_bind0 rfl (Ev_pos (by decide) ?_)
  refine Ev_bind0 rfl (Ev_pos rfl (Ev_bind0 rfl (Ev_neg (by simp) (Ev_bind0 rfl (Ev_neg (by simp) (Ev_bind0 (done_run _ _ _) ?_))))))
  exact aliveJ true

theorem j4_ev (x : Bool) : Ev (fun k => bywashlaw13_BufferEnds.j4 k x) x := Ev.step (fun k => bywashlaw13_BufferEnds.j4.eq_2 ..) (Ev_some rfl)
theorem step_range (n : Int) (h : -9223372036854775808 ≤ n ∧ n ≤ 9223372036854775807) : 1 ≤ wrap64 (1 + (Int.tmod (wrap64 ((Int.tmod n 50) + 50)) 50)) := by
  have h1 : -50 < Int.tmod n 50 := Int.lt_tmod_of_pos n (by omega)
  have h2 : Int.tmod n 50 < 50 := Int.tmod_lt_of_pos n (by omega)
  rw [wid (x := Int.tmod n 50 + 50) (by omega) (by omega), Int.tmod_eq_emod_of_nonneg (by omega), wid (by omega) (by omega)]
  omega
theorem ends_l0 (s : ByteArray) (hs : s.size ≤ 300) (n : Int) (hn : -9223372036854775808 ≤ n ∧ n ≤ 9223372036854775807) (d : Nat) :
    ∀ (i : Int) (b got : ByteArray), b.size ≤ d → got ++ b = s → 0 ≤ i → i + b.size ≤ 300 → Ev (fun k => bywashlaw13_BufferEnds.l0 k s n got i b 1000 true) true := by
  have fin : ∀ (i : Int) (b got : ByteArray), b.size = 0 → got ++ b = s → Ev (fun k => bywashlaw13_BufferEnds.j3 k s n got i false b 1000 true) true := by
    intro i b got hb hg
    have hgs : got = s := by rw [← hg, app_nil got b hb]
    refine Ev.step (fun k => bywashlaw13_BufferEnds.j3.eq_2 ..) (Ev_neg (by simp) (Ev_bind0 (done_run _ _ _) (Ev_pos ?_ (Ev_pos (by rw [hgs]) (Ev_bind0 (get_run _ _ _ _) (Ev_pos ?_ ?_))))))
    · show (true && decide (b.size = 0)) = true
      simp [hb]
    · rw [tl_nil, ByteArray.size_extract]; show min (many b 5) b.size - 0 = 0; omega
    · obtain ⟨c, _, hr⟩ := drop_run (b.extract (many b 5) b.size) 1000 true
      refine Ev_bind0 hr ?_
      have hz : (b.extract (many b 5) b.size).size = 0 := by rw [ByteArray.size_extract]; omega
      have : (((b.extract (many b 5) b.size).size : Int) == 0) = true := by rw [hz]; rfl
      show Ev (fun k => bywashlaw13_BufferEnds.j4 k (((b.extract (many b 5) b.size).size : Int) == 0)) true
      rw [this]
      exact j4_ev true
  induction d with
  | zero =>
    intro i b got hb hg h0 hi
    refine Ev.step (fun k => bywashlaw13_BufferEnds.l0.eq_2 ..) (Ev_pos (by omega) (Ev_bind0 (done_run _ _ _) ?_))
    have : (!(true && decide (b.size = 0))) = false := by rw [decide_eq_true (by omega)]; rfl
    show Ev (fun k => bywashlaw13_BufferEnds.j3 k s n got i (!(true && decide (b.size = 0))) b 1000 true) true
    rw [this]
    exact fin i b got (by omega) hg
  | succ d ih =>
    intro i b got hb hg h0 hi
    refine Ev.step (fun k => bywashlaw13_BufferEnds.l0.eq_2 ..) (Ev_pos (by omega) (Ev_bind0 (done_run _ _ _) ?_))
    show Ev (fun k => bywashlaw13_BufferEnds.j3 k s n got i (!(true && decide (b.size = 0))) b 1000 true) true
    by_cases hz : b.size = 0
    · have : (!(true && decide (b.size = 0))) = false := by simp [hz]
      rw [this]
      exact fin i b got hz hg
    · have : (!(true && decide (b.size = 0))) = true := by simp [hz]
      rw [this]
      have hr := step_range n hn
      refine Ev.step (fun k => bywashlaw13_BufferEnds.j3.eq_2 ..) (Ev_pos rfl (Ev_bind0 (get_run _ _ _ _) ?_))
      generalize wrap64 (1 + (Int.tmod (wrap64 ((Int.tmod n 50) + 50)) 50)) = c at *
      have hle := many_le b c
      have hge : 1 ≤ many b c := by unfold many; omega
      have hcz := cut_size b (many b c) hle
      have hcj := cut_join b (many b c) hle
      have hgz := congrArg ByteArray.size hg
      rw [app_size] at hgz
      refine Ev_pos ?_ ?_
      · show got.size + (b.extract 0 (many b c)).size ≤ _
        rw [hcz.1]; omega
      · rw [wid (x := i + 1) (by omega) (by omega)]
        exact ih (i + 1) (b.extract (many b c) b.size) (got ++ b.extract 0 (many b c)) (by rw [hcz.2]; omega) (by rw [app_assoc, hcj, hg]) (by omega) (by rw [hcz.2]; omega)
theorem BufferEnds : bywashlaw13_BufferEnds.Pure := by
  intro s more n h1 h2 hn
  have hn := wf_range hn
  have j0_true : Ev (fun k => bywashlaw13_BufferEnds.j0 k s more n true) true :=
    Ev.step (fun k => bywashlaw13_BufferEnds.j0.eq_2 ..) (Ev_pos rfl (Ev.bind alive_ev (Ev_some rfl)))
  refine Ev.rounds ?_
  unfold bywashlaw13_BufferEnds.f
  rw [wid (by omega) (by omega)]
  refine Ev_ite (fun _ => j0_true) fun h3 => ?_
  refine Ev.bind alive_ev ?_
  refine Ev.step (fun k => bywashlaw13_BufferEnds.j0.eq_2 ..) (Ev_neg (by simp) (Ev_bind0 (new_run 1000 (by omega)) ?_))
  refine Ev_bind0 (put_yes _ 1000 s (by omega) (by show (0 : Int) + _ ≤ _; omega)) (Ev_pos rfl (Ev_bind0 rfl (Ev_neg (by simp) (Ev_bind0 rfl (Ev_pos rfl (Ev_bind0 rfl (Ev_neg (by simp) (Ev_bind0 (put_no _ _ _) (Ev_neg (by simp) (Ev_bind0 (done_run _ _ _) ?_))))))))))
  have hb : (⟨#[]⟩ : ByteArray) ++ s = s := nil_app s
  have j1 : Ev (fun k => bywashlaw13_BufferEnds.j1 k s n false ((⟨#[]⟩ : ByteArray) ++ s) 1000 true) true := by
    rw [hb]
    refine Ev.step (fun k => bywashlaw13_BufferEnds.j1.eq_2 ..) (Ev_neg (by simp) ?_)
    exact ends_l0 s (by omega) n hn s.size 0 s ⟨#[]⟩ (Nat.le_refl _) (nil_app s) (by omega) (by omega)
  by_cases hz : s.size = 0
  · refine Ev_pos ?_ (Ev_pos ((tl_nil s).2 hz) j1)
    show (true && decide (((⟨#[]⟩ : ByteArray) ++ s).size = 0)) = true
    rw [hb]; simp [hz]
  · refine Ev_neg ?_ (Ev_neg (fun h => hz ((tl_nil s).1 h)) j1)
    show ¬ (true && decide (((⟨#[]⟩ : ByteArray) ++ s).size = 0)) = true
    rw [hb]; simp [hz]

end Go.Proofs.Ytofjbbbajnohaaa.Pure
