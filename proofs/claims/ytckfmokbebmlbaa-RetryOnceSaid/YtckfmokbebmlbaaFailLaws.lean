/- The laws RetryOnce, RetryMost and RetryFinal answer true: the walks. Conditions: none. -/
import Derived.Test.YtckfmokbebmlbaaFailErr
namespace Go.Proofs.Ytckfmokbebmlbaa.Fail
open Go.RowKit Go.Extern.Stop Go.Stop Go.Extern
set_option linter.unusedVariables false
set_option linter.unusedSimpArgs false

theorem RetryFinal_long (W : World) (s : ByteArray) (c : Int) (written : Bool) (tries most : Int) (hs : ¬ s.size ≤ 40) :
    Calls Try.prog 5 #[.string s, .int .i64 c, .bool written, .int .i64 tries, .int .i64 most] W fun e w' => e = .returned (.bool true) ∧ Below W.heap.size W w' := by
  have h1 : decide (40 < s.size) = true := by simpa using hs
  have h2 : decide (40 < (s.size : Int)) = true := by simp; omega
  clear hs
  go_enter Try.func5, Try.ntmps5
  go_wp2_with ((go_at_call 7; refine (alive_true _).mono ?_; rintro e w1 ⟨rfl, hb1⟩))
  go_ret
  exact ⟨rfl, hb1⟩
theorem RetryMost_long (W : World) (s : ByteArray) (written : Bool) (tries most : Int) (hs : ¬ s.size ≤ 40) :
    Calls Try.prog 4 #[.string s, .bool written, .int .i64 tries, .int .i64 most] W fun e w' => e = .returned (.bool true) ∧ Below W.heap.size W w' := by
  have h1 : decide (40 < s.size) = true := by simpa using hs
  have h2 : decide (40 < (s.size : Int)) = true := by simp; omega
  clear hs
  go_enter Try.func4, Try.ntmps4
  go_wp2_with ((go_at_call 7; refine (alive_true _).mono ?_; rintro e w1 ⟨rfl, hb1⟩))
  go_ret
  exact ⟨rfl, hb1⟩
theorem RetryOnce_long (W : World) (s : ByteArray) (c : Int) (tries most : Int) (hs : ¬ s.size ≤ 40) :
    Calls Try.prog 3 #[.string s, .int .i64 c, .int .i64 tries, .int .i64 most] W fun e w' => e = .returned (.bool true) ∧ Below W.heap.size W w' := by
  have h1 : decide (40 < s.size) = true := by simpa using hs
  have h2 : decide (40 < (s.size : Int)) = true := by simp; omega
  clear hs
  go_enter Try.func3, Try.ntmps3
  go_wp2_with ((go_at_call 7; refine (alive_true _).mono ?_; rintro e w1 ⟨rfl, hb1⟩))
  go_ret
  exact ⟨rfl, hb1⟩
theorem RetryFinal_short (W : World) (s : ByteArray) (c : Int) (written : Bool) (tries most : Int) (hs : s.size ≤ 40) :
    Calls Try.prog 5 #[.string s, .int .i64 c, .bool written, .int .i64 tries, .int .i64 most] W fun e w' => e = .returned (.bool true) ∧ Below W.heap.size W w' := by
  have h1 : decide (40 < s.size) = false := by simpa using hs
  have h2 : decide (40 < (s.size : Int)) = false := by simp; omega
  have HF := fun w => final_any w c
  by_cases hf : finalB c = true
  · rw [hf] at HF
    have HA := fun w => again_any w s c written tries most
    rw [show againB s c written tries most = false from by simp [againB, hf]] at HA
    clear hs hf
    go_enter Try.func5, Try.ntmps5
    go_wp2_with (first | (go_at_call 7; refine (alive_true _).mono ?_; rintro e w1 ⟨rfl, hb1⟩) | (go_at_call 9; refine (HF _).mono ?_; rintro e w9 ⟨rfl, n, rfl⟩) | (go_at_call 8; refine (HA _).mono ?_; rintro e w3 ⟨rfl, hb3⟩))
    go_ret
    exact ⟨rfl, below_trans (below_drewN hb1 _) hb3⟩
  · rw [Bool.eq_false_iff.mpr hf] at HF
    clear hs hf
    go_enter Try.func5, Try.ntmps5
    go_wp2_with (first | (go_at_call 7; refine (alive_true _).mono ?_; rintro e w1 ⟨rfl, hb1⟩) | (go_at_call 9; refine (HF _).mono ?_; rintro e w9 ⟨rfl, n, rfl⟩))
    go_ret
    exact ⟨rfl, below_drewN hb1 _⟩
theorem RetryMost_short (W : World) (s : ByteArray) (written : Bool) (tries most : Int) (hs : s.size ≤ 40) :
    Calls Try.prog 4 #[.string s, .bool written, .int .i64 tries, .int .i64 most] W fun e w' => e = .returned (.bool true) ∧ Below W.heap.size W w' := by
  have h1 : decide (40 < s.size) = false := by simpa using hs
  have h2 : decide (40 < (s.size : Int)) = false := by simp; omega
  have HA := fun w => again_any w s 15 written tries most
  have HB := fun w => again_any w s 14 written tries most
  have HC := fun w => again_any w s 11 written tries most
  have HD := fun w => again_any w s 17 written tries most
  rw [show againB s 11 written tries most = false from by simp [againB, show finalB 11 = true from by decide]] at HC
  rw [show againB s 17 written tries most = false from by simp [againB, show finalB 17 = true from by decide]] at HD
  by_cases ht : tries < most
  · have h3 : decide (tries < most) = true := by simpa using ht
    rw [show againB s 15 written tries most = true from by simp [againB, show finalB 15 = false from by decide, Int.not_le.mpr ht]] at HA
    rw [show againB s 14 written tries most = true from by simp [againB, show finalB 14 = false from by decide, Int.not_le.mpr ht]] at HB
    clear hs ht
    go_enter Try.func4, Try.ntmps4
    go_wp2_with (first | (go_at_call 7; refine (alive_true _).mono ?_; rintro e w1 ⟨rfl, hb1⟩) | (go_at_call 8; refine (HA _).mono ?_; rintro e w3 ⟨rfl, hb3⟩; clear HA))
    go_wp2_with ((go_at_call 8; refine (HB _).mono ?_; rintro e w4 ⟨rfl, hb4⟩; clear HB))
    go_wp2_with ((go_at_call 8; refine (HC _).mono ?_; rintro e w5 ⟨rfl, hb5⟩; clear HC))
    go_wp2_with ((go_at_call 8; refine (HD _).mono ?_; rintro e w6 ⟨rfl, hb6⟩; clear HD))
    go_ret
    exact ⟨rfl, below_trans (below_trans (below_trans (below_trans hb1 hb3) hb4) hb5) hb6⟩
  · have h3 : decide (tries < most) = false := by simpa using ht
    rw [show againB s 15 written tries most = false from by simp [againB, Int.not_lt.mp ht]] at HA
    rw [show againB s 14 written tries most = false from by simp [againB, Int.not_lt.mp ht]] at HB
    clear hs ht
    go_enter Try.func4, Try.ntmps4
    go_wp2_with (first | (go_at_call 7; refine (alive_true _).mono ?_; rintro e w1 ⟨rfl, hb1⟩) | (go_at_call 8; refine (HA _).mono ?_; rintro e w3 ⟨rfl, hb3⟩; clear HA))
    go_wp2_with ((go_at_call 8; refine (HB _).mono ?_; rintro e w4 ⟨rfl, hb4⟩; clear HB))
    go_wp2_with ((go_at_call 8; refine (HC _).mono ?_; rintro e w5 ⟨rfl, hb5⟩; clear HC))
    go_wp2_with ((go_at_call 8; refine (HD _).mono ?_; rintro e w6 ⟨rfl, hb6⟩; clear HD))
    go_ret
    exact ⟨rfl, below_trans (below_trans (below_trans (below_trans hb1 hb3) hb4) hb5) hb6⟩
theorem RetryOnce_short (W : World) (s : ByteArray) (c : Int) (tries most : Int) (hs : s.size ≤ 40) :
    Calls Try.prog 3 #[.string s, .int .i64 c, .int .i64 tries, .int .i64 most] W fun e w' => e = .returned (.bool true) ∧ Below W.heap.size W w' := by
  have h1 : decide (40 < s.size) = false := by simpa using hs
  have h2 : decide (40 < (s.size : Int)) = false := by simp; omega
  have HA := fun w => again_any w s c true tries most
  have HB := fun w => again_any w s c false tries most
  have HC := fun w => again_any w s 16 true tries most
  have HF := fun w => final_any w c
  by_cases ht : tries < most
  · have h3 : decide (tries < most) = true := by simpa using ht
    have h4 : decide (most ≤ tries) = false := by simpa using ht
    have ht' : ¬ tries ≥ most := by omega
    by_cases hf : finalB c = true
    · rw [show againB s c true tries most = false from by simp [againB, hf]] at HA
      rw [show againB s c false tries most = false from by simp [againB, hf]] at HB
      rw [hf] at HF
      clear hs ht ht' hf HC
      go_enter Try.func3, Try.ntmps3
      go_wp2_with (first | (go_at_call 7; refine (alive_true _).mono ?_; rintro e w1 ⟨rfl, hb1⟩) | (go_at_call 8; refine (HA _).mono ?_; rintro e w3 ⟨rfl, hb3⟩; clear HA))
      go_wp2_with ((go_at_call 8; refine (HB _).mono ?_; rintro e w4 ⟨rfl, hb4⟩; clear HB))
      go_wp2_with ((go_at_call 9; refine (HF _).mono ?_; rintro e w9 ⟨rfl, n, rfl⟩))
      go_ret
      exact ⟨rfl, below_drewN (below_trans (below_trans hb1 hb3) hb4) _⟩
    · have hf := Bool.eq_false_iff.mpr hf
      rw [hf] at HF
      by_cases h15 : (c == 15) = true
      · rw [show againB s c true tries most = true from by simp [againB, hf, ht', h15]] at HA
        rw [show againB s c false tries most = true from by simp [againB, hf, ht', h15]] at HB
        clear hs ht ht' hf HC
        go_enter Try.func3, Try.ntmps3
        go_wp2_with (first | (go_at_call 7; refine (alive_true _).mono ?_; rintro e w1 ⟨rfl, hb1⟩) | (go_at_call 8; refine (HA _).mono ?_; rintro e w3 ⟨rfl, hb3⟩; clear HA))
        go_wp2_with ((go_at_call 8; refine (HB _).mono ?_; rintro e w4 ⟨rfl, hb4⟩; clear HB))
        go_wp2_with ((go_at_call 9; refine (HF _).mono ?_; rintro e w9 ⟨rfl, n, rfl⟩))
        go_ret
        exact ⟨rfl, below_drewN (below_trans (below_trans hb1 hb3) hb4) _⟩
      · have h15 := Bool.eq_false_iff.mpr h15
        by_cases h14 : (c == 14) = true
        · rw [show againB s c true tries most = true from by simp [againB, hf, ht', h14]] at HA
          rw [show againB s c false tries most = true from by simp [againB, hf, ht', h14]] at HB
          clear hs ht ht' hf HC
          go_enter Try.func3, Try.ntmps3
          go_wp2_with (first | (go_at_call 7; refine (alive_true _).mono ?_; rintro e w1 ⟨rfl, hb1⟩) | (go_at_call 8; refine (HA _).mono ?_; rintro e w3 ⟨rfl, hb3⟩; clear HA))
          go_wp2_with ((go_at_call 8; refine (HB _).mono ?_; rintro e w4 ⟨rfl, hb4⟩; clear HB))
          go_wp2_with ((go_at_call 9; refine (HF _).mono ?_; rintro e w9 ⟨rfl, n, rfl⟩))
          go_ret
          exact ⟨rfl, below_drewN (below_trans (below_trans hb1 hb3) hb4) _⟩
        · have h14 := Bool.eq_false_iff.mpr h14
          rw [show againB s c false tries most = true from by simp [againB, hf, ht', h14, h15]] at HB
          by_cases hsf : safeB s = true
          · rw [show againB s c true tries most = true from by simp [againB, hf, ht', h14, h15, hsf]] at HA
            rw [show againB s 16 true tries most = true from by simp [againB, show finalB 16 = false from by decide, ht', hsf]] at HC
            clear hs ht ht' hf hsf
            go_enter Try.func3, Try.ntmps3
            go_wp2_with (first | (go_at_call 7; refine (alive_true _).mono ?_; rintro e w1 ⟨rfl, hb1⟩) | (go_at_call 8; refine (HA _).mono ?_; rintro e w3 ⟨rfl, hb3⟩; clear HA))
            go_wp2_with ((go_at_call 8; refine (HB _).mono ?_; rintro e w4 ⟨rfl, hb4⟩; clear HB))
            go_wp2_with (first | (go_at_call 8; refine (HC _).mono ?_; rintro e w5 ⟨rfl, hb5⟩; clear HC) | (go_at_call 9; refine (HF _).mono ?_; rintro e w9 ⟨rfl, n, rfl⟩))
            go_ret
            exact ⟨rfl, below_drewN (below_trans (below_trans (below_trans hb1 hb3) hb4) hb5) _⟩
          · have hsf := Bool.eq_false_iff.mpr hsf
            rw [show againB s c true tries most = false from by simp [againB, hf, ht', h14, h15, hsf]] at HA
            clear hs ht ht' hf hsf HC
            go_enter Try.func3, Try.ntmps3
            go_wp2_with (first | (go_at_call 7; refine (alive_true _).mono ?_; rintro e w1 ⟨rfl, hb1⟩) | (go_at_call 8; refine (HA _).mono ?_; rintro e w3 ⟨rfl, hb3⟩; clear HA))
            go_wp2_with ((go_at_call 8; refine (HB _).mono ?_; rintro e w4 ⟨rfl, hb4⟩; clear HB))
            go_wp2_with ((go_at_call 9; refine (HF _).mono ?_; rintro e w9 ⟨rfl, n, rfl⟩))
            go_ret
            exact ⟨rfl, below_drewN (below_trans (below_trans hb1 hb3) hb4) _⟩
  · have h3 : decide (tries < most) = false := by simpa using ht
    have h4 : decide (most ≤ tries) = true := by simpa using ht
    have ht' : tries ≥ most := by omega
    rw [show againB s c true tries most = false from by simp [againB, ht']] at HA
    rw [show againB s c false tries most = false from by simp [againB, ht']] at HB
    generalize finalB c = z at HF
    clear hs ht ht' HC
    cases z
    · go_enter Try.func3, Try.ntmps3
      go_wp2_with (first | (go_at_call 7; refine (alive_true _).mono ?_; rintro e w1 ⟨rfl, hb1⟩) | (go_at_call 8; refine (HA _).mono ?_; rintro e w3 ⟨rfl, hb3⟩; clear HA))
      go_wp2_with ((go_at_call 8; refine (HB _).mono ?_; rintro e w4 ⟨rfl, hb4⟩; clear HB))
      go_wp2_with ((go_at_call 9; refine (HF _).mono ?_; rintro e w9 ⟨rfl, n, rfl⟩))
      go_ret
      exact ⟨rfl, below_drewN (below_trans (below_trans hb1 hb3) hb4) _⟩
    · go_enter Try.func3, Try.ntmps3
      go_wp2_with (first | (go_at_call 7; refine (alive_true _).mono ?_; rintro e w1 ⟨rfl, hb1⟩) | (go_at_call 8; refine (HA _).mono ?_; rintro e w3 ⟨rfl, hb3⟩; clear HA))
      go_wp2_with ((go_at_call 8; refine (HB _).mono ?_; rintro e w4 ⟨rfl, hb4⟩; clear HB))
      go_wp2_with ((go_at_call 9; refine (HF _).mono ?_; rintro e w9 ⟨rfl, n, rfl⟩))
      go_ret
      exact ⟨rfl, below_drewN (below_trans (below_trans hb1 hb3) hb4) _⟩
theorem RetryFinal_all (W : World) (s : ByteArray) (c : Int) (written : Bool) (tries most : Int) :
    Calls Try.prog 5 #[.string s, .int .i64 c, .bool written, .int .i64 tries, .int .i64 most] W fun e w' => e = .returned (.bool true) ∧ Below W.heap.size W w' := by
  by_cases hs : s.size ≤ 40
  · exact RetryFinal_short W s c written tries most hs
  · exact RetryFinal_long W s c written tries most hs
theorem RetryMost_all (W : World) (s : ByteArray) (written : Bool) (tries most : Int) :
    Calls Try.prog 4 #[.string s, .bool written, .int .i64 tries, .int .i64 most] W fun e w' => e = .returned (.bool true) ∧ Below W.heap.size W w' := by
  by_cases hs : s.size ≤ 40
  · exact RetryMost_short W s written tries most hs
  · exact RetryMost_long W s written tries most hs
theorem RetryOnce_all (W : World) (s : ByteArray) (c tries most : Int) :
    Calls Try.prog 3 #[.string s, .int .i64 c, .int .i64 tries, .int .i64 most] W fun e w' => e = .returned (.bool true) ∧ Below W.heap.size W w' := by
  by_cases hs : s.size ≤ 40
  · exact RetryOnce_short W s c tries most hs
  · exact RetryOnce_long W s c tries most hs
end Go.Proofs.Ytckfmokbebmlbaa.Fail
