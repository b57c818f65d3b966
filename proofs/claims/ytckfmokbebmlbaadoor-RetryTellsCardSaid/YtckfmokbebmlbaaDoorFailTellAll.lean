/- The law RetryTells answers true: the walk. Conditions: that errors.errorType is laid. -/
import Derived.Test.YtckfmokbebmlbaaDoorFailTellTwo
import Derived.Test.YtckfmokbebmlbaaDoorFailTellOne
namespace Go.Proofs.YtckfmokbebmlbaaDoor.Fail
open Go.RowKit Go.Extern.Stop Go.Stop Go.Extern Go.Proofs.YtckfmokbebmlbaaDoorW.PrintWords Go.Proofs.YtckfmokbebmlbaaDoorW.PrintLast
set_option linter.unusedVariables false
set_option linter.unusedSimpArgs false

set_option maxHeartbeats 2000000 in
theorem tell_zero (W : World) (s : ByteArray) (written : Bool) (tries most : Int) (hs : decide ((40 : Int) < (s.size : Int)) = false) :
    Calls Tryd.prog 3 #[.string s, .int .i64 0, .bool written, .int .i64 tries, .int .i64 most] W fun e w' => e = .returned (.bool true) ∧ Below W.heap.size W w' := by
  have HA := fun w => again_any w s 0 written tries most
  have HR := fun w => ref_any w s 0 written tries most
  have HF := fun w => final_any w 0
  rw [show finalB 0 = true from by decide +kernel] at HF
  generalize againB s 0 written tries most = z at *
  go_enter Tryd.func3, Tryd.ntmps3
  go_wp2_with (first | (go_at_call 4; refine (alive_true _).mono ?_; rintro e w1 ⟨rfl, hb1⟩) | (go_at_call 5; refine (HA _).mono ?_; rintro e w2 ⟨rfl, hb2⟩; replace hb1 := below_trans hb1 hb2; clear hb2 HA) | (go_at_call 6; refine (HR _).mono ?_; rintro e w2 ⟨rfl, hd⟩; replace hb1 := below_drawn hb1 hd; clear hd HR) | (go_at_call 7; refine (HF _).mono ?_; rintro e w2 ⟨rfl, hd⟩; replace hb1 := below_drawn hb1 hd; clear hd HF) | (go_at_call 8; refine (err_zero _ tries).mono ?_; rintro e w3 ⟨rfl, rfl⟩))
  go_ret
  exact ⟨rfl, hb1⟩
theorem RetryTells_all (W : World) (hL : Laid W) (s : ByteArray) (c : Int) (written : Bool) (tries most : Int) :
    Calls Tryd.prog 3 #[.string s, .int .i64 c, .bool written, .int .i64 tries, .int .i64 most] W fun e w' => e = .returned (.bool true) ∧ Below W.heap.size W w' := by
  cases hs : decide ((40 : Int) < (s.size : Int))
  · by_cases h0 : c = 0
    · subst h0; exact tell_zero W s written tries most hs
    · by_cases ht : 1 < tries
      · by_cases h15 : c = 15
        · subst h15; exact tell2_15 W hL s written tries most hs ht
        by_cases h14 : c = 14
        · subst h14; exact tell2_14 W hL s written tries most hs ht
        by_cases h19 : c = 19
        · subst h19; exact tell2_19 W hL s written tries most hs ht
        by_cases h16 : c = 16
        · subst h16; exact tell2_16 W hL s written tries most hs ht
        by_cases h20 : c = 20
        · subst h20; exact tell2_20 W hL s written tries most hs ht
        by_cases h18 : c = 18
        · subst h18; exact tell2_18 W hL s written tries most hs ht
        by_cases h23 : c = 23
        · subst h23; exact tell2_23 W hL s written tries most hs ht
        exact tell2_c W hL s c written tries most hs ht h0 ⟨by simpa using h15, by simpa using h14, by simpa using h19, by simpa using h16, by simpa using h20, by simpa using h18, by simpa using h23⟩
      · by_cases h15 : c = 15
        · subst h15; exact tell1_15 W hL s written tries most hs ht
        by_cases h14 : c = 14
        · subst h14; exact tell1_14 W hL s written tries most hs ht
        by_cases h19 : c = 19
        · subst h19; exact tell1_19 W hL s written tries most hs ht
        by_cases h16 : c = 16
        · subst h16; exact tell1_16 W hL s written tries most hs ht
        by_cases h20 : c = 20
        · subst h20; exact tell1_20 W hL s written tries most hs ht
        by_cases h18 : c = 18
        · subst h18; exact tell1_18 W hL s written tries most hs ht
        by_cases h23 : c = 23
        · subst h23; exact tell1_23 W hL s written tries most hs ht
        exact tell1_c W hL s c written tries most hs ht h0 ⟨by simpa using h15, by simpa using h14, by simpa using h19, by simpa using h16, by simpa using h20, by simpa using h18, by simpa using h23⟩
  · exact tells_long W hL s c written tries most hs
end Go.Proofs.YtckfmokbebmlbaaDoor.Fail
