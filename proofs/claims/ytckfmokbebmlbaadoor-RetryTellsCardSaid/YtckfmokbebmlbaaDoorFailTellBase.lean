/- The law RetryTells answers true: the walk. Conditions: that errors.errorType is laid. -/
import Derived.Test.YtckfmokbebmlbaaDoorFailErr
import Derived.Test.YtckfmokbebmlbaaDoorFailWords
namespace Go.Proofs.YtckfmokbebmlbaaDoor.Fail
open Go.RowKit Go.Extern.Stop Go.Stop Go.Extern Go.Proofs.YtckfmokbebmlbaaDoorW.PrintWords Go.Proofs.YtckfmokbebmlbaaDoorW.PrintLast
set_option linter.unusedVariables false
set_option linter.unusedSimpArgs false

theorem ref_safe (s : ByteArray) : PRetryTells.bywashref1_Safe.f s = some (safeB s) := by
  unfold PRetryTells.bywashref1_Safe.f safeB
  repeat' split
  all_goals simp_all
theorem ref_again (s : ByteArray) (c : Int) (written : Bool) (tries most : Int) : PRetryTells.bywashref19_Again.f 1 s c written tries most = some (againB s c written tries most) := by
  by_cases ht : tries ≥ most
  · simp [PRetryTells.bywashref19_Again.f, againB, ht]
  · by_cases h : c = 15 ∨ c = 14 ∨ c = 19 ∨ c = 16 ∨ c = 20 ∨ c = 18
    · rcases h with rfl | rfl | rfl | rfl | rfl | rfl <;> cases hs : safeB s <;> simp [PRetryTells.bywashref19_Again.f, PRetryTells.bywashref19_Again.j0, againB, finalB, ht, ref_safe, hs]
    · simp only [not_or] at h
      simp [PRetryTells.bywashref19_Again.f, PRetryTells.bywashref19_Again.j0, againB, finalB, ht, ref_safe, h]
theorem ref_any (w : World) (s : ByteArray) (c : Int) (written : Bool) (tries most : Int) : Calls Tryd.prog 6 #[.string s, .int .i64 c, .bool written, .int .i64 tries, .int .i64 most] w fun e w' => e = .returned (.bool (againB s c written tries most)) ∧ ∃ n, w' = w.drewN n :=
  (PRetryTells.bywashref19_Again.calls 1 s c written tries most _ w (ref_again s c written tries most)).mono fun e w' h => ⟨h.1, by obtain ⟨_, n, rfl⟩ := h; exact ⟨n, rfl⟩⟩
theorem szA : sAgain.size ≤ 100 := by decide +kernel
theorem szC : sCall.size ≤ 100 := by decide +kernel
theorem below_drawn {B : Nat} {a w w2 : World} (h : Below B a w) (hd : ∃ n, w2 = w.drewN n) : Below B a w2 := by obtain ⟨n, rfl⟩ := hd; exact below_drewN h n
theorem tells_long (W : World) (hL : Laid W) (s : ByteArray) (c : Int) (written : Bool) (tries most : Int) (hs : decide ((40 : Int) < (s.size : Int)) = true) :
    Calls Tryd.prog 3 #[.string s, .int .i64 c, .bool written, .int .i64 tries, .int .i64 most] W fun e w' => e = .returned (.bool true) ∧ Below W.heap.size W w' := by
  go_enter Tryd.func3, Tryd.ntmps3
  go_wp2_with ((go_at_call 4; refine (alive_true _).mono ?_; rintro e w1 ⟨rfl, hb1⟩))
  go_ret
  exact ⟨rfl, hb1⟩
end Go.Proofs.YtckfmokbebmlbaaDoor.Fail
