/- In whichever pieces bytes go in, and come out, they are the same bytes. Conditions: those of the statement itself. -/
import Derived.Test.YtofjbbbajnohaaaPBufferPiecesx0
import Derived.Test.YtofjbbbajnohaaaPBufferPiecesx1
import Derived.Test.YtofjbbbajnohaaaPBufferPiecesx2
import Derived.Test.YtofjbbbajnohaaaStaBufferPieces
import Derived.Test.YtofjbbbajnohaaaAid
namespace Go.Proofs.Ytofjbbbajnohaaa.Pure
open Go.RowKit Go.Proofs.YtofjbbbajnohaaaW.PrintWords Go.Proofs.YtofjbbbajnohaaaW.PrintLast Go.Proofs.YtofjbbbajnohaaaW.PrintMore Go.Proofs.Ytofjbbbajnohaaa.Aid Go.Proofs.Ytofjbbbajnohaaa.PBufferPieces Go.Proofs.Ytofjbbbajnohaaa.StaBufferPieces
set_option linter.unusedVariables false
set_option linter.unusedSimpArgs false

theorem tl_eq (a : ByteArray) : a.toList = a.data.toList := ByteArray.toList_eq a
theorem ba_ext {a b : ByteArray} (h : a.data = b.data) : a = b := by cases a; cases b; cases h; rfl
theorem ba_of_list {a b : ByteArray} (h : a.toList = b.toList) : a = b := by
  rw [tl_eq, tl_eq] at h
  exact ba_ext (Array.toList_inj.1 h)
theorem tl_nil (b : ByteArray) : b.toList = ([] : List UInt8) ↔ b.size = 0 := by
  rw [tl_eq]
  constructor
  · intro h
    have := congrArg List.length h
    rw [Array.length_toList] at this
    exact this
  · intro h
    have : b.data.toList.length = 0 := by rw [Array.length_toList]; exact h
    exact List.length_eq_zero_iff.1 this
theorem cut_join (b : ByteArray) (m : Nat) (h : m ≤ b.size) : b.extract 0 m ++ b.extract m b.size = b := by
  apply ba_ext
  have hs : b.size = b.data.size := rfl
  rw [ByteArray.data_append, ByteArray.data_extract, ByteArray.data_extract, Array.extract_append_extract]
  have e1 : min 0 m = 0 := by omega
  have e2 : max m b.size = b.data.size := by rw [← hs]; omega
  rw [e1, e2, Array.extract_size]
theorem cut_size (b : ByteArray) (m : Nat) (h : m ≤ b.size) : (b.extract 0 m).size = m ∧ (b.extract m b.size).size = b.size - m := by
  rw [ByteArray.size_extract, ByteArray.size_extract]
  omega
theorem cut_zero (b : ByteArray) : b.extract 0 0 = ⟨#[]⟩ ∧ b.extract 0 b.size = b := by
  have hz : (b.extract 0 0).size = 0 := by rw [ByteArray.size_extract]; omega
  refine ⟨?_, ?_⟩
  · apply ba_of_list
    rw [(tl_nil _).2 hz, (tl_nil _).2 rfl]
  · apply ba_ext
    rw [ByteArray.data_extract]
    exact Array.extract_size
theorem app_size (a b : ByteArray) : (a ++ b).size = a.size + b.size := ByteArray.size_append
theorem app_assoc (a b c : ByteArray) : a ++ b ++ c = a ++ (b ++ c) := by
  apply ba_ext
  simp only [ByteArray.data_append, Array.append_assoc]
theorem app_nil (a : ByteArray) (b : ByteArray) (h : b.size = 0) : a ++ b = a := by
  apply ba_ext
  rw [ByteArray.data_append]
  have : b.data = #[] := Array.eq_empty_of_size_eq_zero h
  rw [this, Array.append_empty]
theorem nil_app (b : ByteArray) : (⟨#[]⟩ : ByteArray) ++ b = b := by
  apply ba_ext
  rw [ByteArray.data_append]
  exact Array.empty_append
/-- How much Get takes. -/
def many (b : ByteArray) (n : Int) : Nat := (min (max n 0) (b.size : Int)).toNat
theorem many_le (b : ByteArray) (n : Int) : many b n ≤ b.size := by unfold many; omega
theorem get_run (b : ByteArray) (most : Int) (e : Bool) (n : Int) : buffer_Buffer_Get.f b most e n = some (b.extract 0 (many b n), b.extract (many b n) b.size, most, e) := by
  unfold buffer_Buffer_Get.f buffer_Buffer_Len.f
  simp only [Option.bind_some]
  have em : mn (mx n 0) (b.size : Int) = min (max n 0) (b.size : Int) := by rw [mn_eq, mx_eq]
  rw [em]
  by_cases hz : min (max n 0) (b.size : Int) = 0
  · have : many b n = 0 := by unfold many; omega
    rw [if_pos hz, this, (cut_zero b).1, (cut_zero b).2]
  · rw [if_neg hz, if_pos (by omega), if_pos (by omega)]
    rfl
theorem put_no (b : ByteArray) (most : Int) (s : ByteArray) : buffer_Buffer_Put.f b most true s = some (false, b, most, true) := rfl
theorem put_yes (b : ByteArray) (most : Int) (s : ByteArray) (hm : most ≤ 9223372036854775807) (h : (b.size : Int) + (s.size : Int) ≤ most) : buffer_Buffer_Put.f b most false s = some (true, b ++ s, most, false) := by
  unfold buffer_Buffer_Put.f buffer_Buffer_Ended.f
  simp only [Option.bind_some, Bool.false_eq_true, if_false]
  rw [wid (by omega) (by omega), if_neg (by omega), if_pos (by omega)]
theorem put_full (b : ByteArray) (most : Int) (s : ByteArray) (hm : most ≤ 9223372036854775807) (hb : (b.size : Int) ≤ most) (h : ¬ (b.size : Int) + (s.size : Int) ≤ most) : buffer_Buffer_Put.f b most false s = some (false, b, most, false) := by
  unfold buffer_Buffer_Put.f buffer_Buffer_Ended.f
  simp only [Option.bind_some, Bool.false_eq_true, if_false]
  rw [wid (by omega) (by omega), if_pos (by omega)]
theorem nil_of_size {c : ByteArray} (h : c.size = 0) : c = ⟨#[]⟩ := ba_of_list (by rw [(tl_nil c).2 h, (tl_nil _).2 rfl])
theorem new_run (most : Int) (h : 1 ≤ most) : buffer_New.f most = some (⟨#[]⟩, most, false) := by
  unfold buffer_New.f; rw [if_neg (by omega)]
theorem done_run (b : ByteArray) (most : Int) (e : Bool) : buffer_Buffer_Done.f b most e = some ((e && decide (b.size = 0)), b, most, e) := by
  unfold buffer_Buffer_Done.f buffer_Buffer_Ended.f buffer_Buffer_Len.f
  cases e with
  | true =>
    simp only [Option.bind_some, if_true, Bool.true_and]
    by_cases h : b.size = 0 <;> simp [h]
  | false => simp

theorem alive_ok : bywashlaw13_alive.f = some true := by
  have h : Ev (fun _ => bywashlaw13_alive.f) true := by
    unfold bywashlaw13_alive.f
    refine Ev_bind0 (new_run 5 (by omega)) ?_
    refine Ev_bind0 (put_yes _ 5 _ (by omega) (by decide)) (Ev_pos rfl ?_)
    refine Ev_bind0 (put_full _ 5 _ (by omega) (by decide) (by decide)) (Ev_neg (by simp) ?_)
    refine Ev_bind0 (get_run _ _ _ _) ?_
    refine Ev_pos ?_ ?_
    · rw [tl_eq]; decide
    refine Ev_bind0 rfl (Ev_pos (by decide) ?_)
    refine Ev_bind0 rfl (Ev_pos rfl (Ev_bind0 rfl (Ev_neg (by simp) (Ev_bind0 rfl (Ev_neg (by simp) (Ev_bind0 (done_run _ _ _) ?_))))))
    exact Ev_some rfl
  obtain ⟨K, hK⟩ := h
  exact hK K (Nat.le_refl _)
theorem alive_ev : Ev (fun _ => bywashlaw13_alive.f) true := Ev_const alive_ok

theorem pieces_l0 (n : List Int) (hn : n.length ≤ 200) (l : List ByteArray) (hl : l.length ≤ 60) (d : Nat) :
    ∀ (i : Nat) (b inn out : ByteArray), l.length - i = d → out ++ b = inn → inn.size ≤ 300 * i → i ≤ l.length → Ev (fun k => bywashlaw13_BufferPieces.l0 k n inn out l (l.length : Int) (i : Int) b 100000 false) true := by
  induction d with
  | zero =>
    intro i b inn out hd hi hs hil
    have hz := congrArg ByteArray.size hi
    rw [app_size] at hz
    refine Ev.step (fun k => bywashlaw13_BufferPieces.l0.eq_2 ..) (Ev_neg (by omega) (Ev_bind0 (get_run _ _ _ _) ?_))
    have hm : many b 1099511627776 = b.size := by unfold many; omega
    have h0 : b.extract 0 (many b 1099511627776) = b := by rw [hm]; exact (cut_zero b).2
    have h1 : (b.extract (many b 1099511627776) b.size).size = 0 := by rw [hm, ByteArray.size_extract]; omega
    refine Ev_pos ?_ (Ev_pos ?_ (Ev_bind0 rfl ?_))
    · show out.size + (b.extract 0 (many b 1099511627776)).size ≤ _
      rw [h0]; omega
    · show (out ++ b.extract 0 (many b 1099511627776)).toList = _
      rw [h0, hi]
    · have : (((b.extract (many b 1099511627776) b.size).size : Int) == 0) = true := by rw [h1]; rfl
      exact Ev_some this
  | succ d ih =>
    intro i b inn out hd hi hs hil
    have hz := congrArg ByteArray.size hi
    rw [app_size] at hz
    refine Ev.step (fun k => bywashlaw13_BufferPieces.l0.eq_2 ..) (Ev_pos (by omega) (Ev_pos (by omega) (Ev_pos (by omega) ?_)))
    generalize rdOf ByteArray.empty l (i : Int) = s at *
    have j3 : ∀ c inn out : ByteArray, out ++ c = inn → inn.size ≤ 300 * (i + 1) → Ev (fun k => bywashlaw13_BufferPieces.l0 k n inn out l (l.length : Int) (wrap64 ((i : Int) + 1)) c 100000 false) true := by
      intro c inn out h1 h2
      rw [wid (x := (i : Int) + 1) (by omega) (by omega)]
      exact ih (i + 1) c inn out (by omega) h1 h2 (by omega)
    refine Ev_ite (fun h3 => ?_) fun h3 => ?_
    · exact Ev.step (fun k => bywashlaw13_BufferPieces.j2.eq_2 ..) (Ev_pos rfl (Ev_some (decide_eq_true h3)))
    · refine Ev_bind0 (put_yes b 100000 s (by omega) (by omega)) ?_
      have hjoin : out ++ (b ++ s) = inn ++ s := by rw [← app_assoc, hi]
      have hsz : (inn ++ s).size ≤ 300 * (i + 1) := by rw [app_size]; omega
      refine Ev.step (fun k => bywashlaw13_BufferPieces.j2.eq_2 ..) (Ev_neg (by simp) (Ev_pos (by omega) (Ev_ite (fun h4 => Ev_pos (by omega) ?_) fun h4 => ?_)))
      · refine Ev_bind0 (get_run _ _ _ _) ?_
        have hle := many_le (b ++ s) (rd n (i : Int))
        have hcz := cut_size (b ++ s) (many (b ++ s) (rd n (i : Int))) hle
        have hcj := cut_join (b ++ s) (many (b ++ s) (rd n (i : Int))) hle
        have hbs := app_size b s
        refine Ev_pos ?_ (j3 _ _ _ ?_ hsz)
        · show out.size + ((b ++ s).extract 0 (many (b ++ s) (rd n (i : Int)))).size ≤ _
          rw [hcz.1]; omega
        · show out ++ (b ++ s).extract 0 (many (b ++ s) (rd n (i : Int))) ++ (b ++ s).extract (many (b ++ s) (rd n (i : Int))) (b ++ s).size = _
          rw [app_assoc, hcj, hjoin]
      · exact j3 _ _ _ hjoin hsz
theorem BufferPieces : StaBufferPieces.Pure := by
  intro l n ⟨_, hl, _⟩ ⟨_, hn, _⟩
  have j0_true : Ev (fun k => bywashlaw13_BufferPieces.j0 k l n true) true :=
    Ev.step (fun k => bywashlaw13_BufferPieces.j0.eq_2 ..) (Ev_pos rfl (Ev.bind alive_ev (Ev_some rfl)))
  refine Ev.rounds ?_
  unfold bywashlaw13_BufferPieces.f
  refine Ev_ite (fun _ => j0_true) fun h1 => ?_
  refine Ev_ite (fun _ => j0_true) fun h2 => ?_
  refine Ev.bind alive_ev ?_
  refine Ev.step (fun k => bywashlaw13_BufferPieces.j0.eq_2 ..) (Ev_neg (by simp) (Ev_bind0 (new_run 100000 (by omega)) ?_))
  exact pieces_l0 n (by omega) l (by omega) l.length 0 ⟨#[]⟩ ⟨#[]⟩ ⟨#[]⟩ (by omega) (nil_app _) (by decide) (by omega)

end Go.Proofs.Ytofjbbbajnohaaa.Pure
