/- The law RetryTells answers true: the walk. Conditions: that errors.errorType is laid. -/
import Derived.Test.YtckfmokbebmlbaaDoorFailTellBase
namespace Go.Proofs.YtckfmokbebmlbaaDoor.Fail
open Go.RowKit Go.Extern.Stop Go.Stop Go.Extern Go.Proofs.YtckfmokbebmlbaaDoorW.PrintWords Go.Proofs.YtckfmokbebmlbaaDoorW.PrintLast
set_option linter.unusedVariables false
set_option linter.unusedSimpArgs false

set_option maxHeartbeats 2000000 in
theorem tell2_15 (W : World) (hL : Laid W) (s : ByteArray) (written : Bool) (tries most : Int) (hs : decide ((40 : Int) < (s.size : Int)) = false) (ht : 1 < tries) :
    Calls Tryd.prog 3 #[.string s, .int .i64 15, .bool written, .int .i64 tries, .int .i64 most] W fun e w' => e = .returned (.bool true) ∧ Below W.heap.size W w' := by
  have h1 : decide (1 < tries) = true := by simpa using ht
  have HA := fun w => again_any w s 15 written tries most
  have HR := fun w => ref_any w s 15 written tries most
  have HF := fun w => final_any w 15
  rw [show finalB 15 = false from by decide +kernel] at HF
  generalize againB s 15 written tries most = z at *
  have HE := fun w => err_some w 15 tries (by decide)
  rw [show errL 15 tries = [(sAgain, 23), (sCall, 15), (⟨#[]⟩, 15)] from if_pos ht] at HE
  have hLH := Lib.hid hL
  clear ht hL
  go_enter Tryd.func3, Tryd.ntmps3
  go_wp2_with (first | (go_at_call 4; refine (alive_true _).mono ?_; rintro e w1 ⟨rfl, hb1⟩) | (go_at_call 5; refine (HA _).mono ?_; rintro e w2 ⟨rfl, hb2⟩; replace hb1 := below_trans hb1 hb2; clear hb2 HA) | (go_at_call 6; refine (HR _).mono ?_; rintro e w2 ⟨rfl, hd⟩; replace hb1 := below_drawn hb1 hd; clear hd HR) | (go_at_call 7; refine (HF _).mono ?_; rintro e w2 ⟨rfl, hd⟩; replace hb1 := below_drawn hb1 hd; clear hd HF) | (go_at_call 8; refine (HE _).mono ?_; rintro e w3 ⟨b, rfl, hch, hb3⟩; clear HE))
  have hL3 := hLH.out.on (below_trans hb1 hb3)
  have hb1 := Lib.hid (below_trans hb1 hb3)
  clear hb3
  have mE := methodError
  have hE := fun (w : World) (h : Below w3.heap.size w3 w) => Error_chain _ w w3.heap.size b (by simp only [List.mem_cons, List.not_mem_nil, or_false]; rintro x (rfl | rfl | rfl); exact szA; exact szC; exact Nat.zero_le _) (by simp) h.size (hch.under h (Nat.le_refl _))
  rw [show wordsOf [(sAgain, 23), (sCall, 15), (⟨#[]⟩, 15)] = ⟨#[97, 103, 97, 105, 110, 58, 32]⟩ ++ (⟨#[99, 97, 108, 108, 58, 32]⟩ ++ nameOf 15) from by
    have e1 : opW sAgain = ⟨#[97, 103, 97, 105, 110, 58, 32]⟩ := by decide +kernel
    have e2 : opW sCall = ⟨#[99, 97, 108, 108, 58, 32]⟩ := by decide +kernel
    have e3 : opW ⟨#[]⟩ = ⟨#[]⟩ := by decide +kernel
    simp [wordsOf, e1, e2, e3]
    exact ByteArray.empty_append] at hE
  have hC := fun (w : World) (h : Below w3.heap.size w3 w) => Code_chain w (hL3.on h) w3.heap.size b _ _ _ (hch.under h (Nat.le_refl _))
  have hH := fun (w : World) (h : Below w3.heap.size w3 w) => Has_chain w w3.heap.size h.size 15 b _ (hch.under h (Nat.le_refl _))
  have hM := fun (w : World) (h : Below w3.heap.size w3 w) => Has_chain w w3.heap.size h.size 23 b _ (hch.under h (Nat.le_refl _))
  rw [show hasB 15 [(sAgain, 23), (sCall, 15), (⟨#[]⟩, 15)] = true from by decide +kernel] at hH
  rw [show hasB 23 [(sAgain, 23), (sCall, 15), (⟨#[]⟩, 15)] = true from by simp [hasB]] at hM
  have hI := fun (w : World) (h : Below w3.heap.size w3 w) => Is_code w w3.heap.size h.size 15 (by decide) b _ (hch.under h (Nat.le_refl _))
  rw [show ([(sAgain, (23 : Int)), (sCall, 15), (⟨#[]⟩, 15)].any fun x => 15 == x.2) = true from by decide +kernel] at hI
  have hn := name_size 15
  go_wp2_with ((go_at_call 9; refine (name_any _ 15).mono ?_; rintro e w4 ⟨rfl, hb4⟩))
  have hX := belowT hb4 (below_new w4 (.cells #[.pointer none] 30))
  have hg := Lib.hid (heap_new w4 (.cells #[.pointer none] 30))
  have hgs := Lib.hid (show w4.heap.size < (w4.alloc (.cells #[.pointer none] 30)).heap.size from by rw [size_alloc]; omega)
  generalize w4.alloc (.cells #[.pointer none] 30) = X at *
  have hT := Below.refl X.heap.size X
  have hchH := Lib.hid hch
  have hs34 := Lib.hid hb4.size
  clear hch hb4
  go_wp2_with (first | (go_at_call 46; refine (hE _ (belowT hX hT)).mono ?_; rintro e w5 ⟨rfl, hb5⟩; replace hT := belowT hT hb5; clear hb5 hE) | (go_at_call 10; refine (hC _ (belowT hX hT)).mono ?_; rintro e w5 ⟨rfl, hb5⟩; replace hT := belowT hT hb5; clear hb5 hC) | (go_at_call 11; refine (hH _ (belowT hX hT)).mono ?_; rintro e w5 ⟨rfl, hb5⟩; replace hT := belowT hT hb5; clear hb5 hH) | (go_at_call 11; refine (hM _ (belowT hX hT)).mono ?_; rintro e w5 ⟨rfl, hb5⟩; replace hT := belowT hT hb5; clear hb5 hM) | (go_at_call 12; refine (As_fail _ (hL3.on (belowT hX hT)) b w4.heap.size _ ((hT.block w4.heap.size hgs.out).trans hg.out)).mono ?_; rintro e w6 ⟨rfl, hh, hcg, hbg, hk⟩; have hZ := (belowT hX hT).trans (hbg.mono hs34.out); obtain ⟨E6, hcb, _, _⟩ := (hchH.out.under hZ (Nat.le_refl _)).top; obtain ⟨c0, c1, c2⟩ := fcells hcb; clear hcb hbg) | (go_at_call 14; refine (new_some 15 (by decide) _).mono ?_; rintro e w7 ⟨rfl, rfl⟩) | (go_at_call 13; refine (hI _ hZ).mono ?_; rintro e w7 ⟨rfl, hb7⟩; clear hI))
  go_ret
  exact ⟨rfl, belowT (belowT hb1.out hZ) hb7⟩
set_option maxHeartbeats 2000000 in
theorem tell2_14 (W : World) (hL : Laid W) (s : ByteArray) (written : Bool) (tries most : Int) (hs : decide ((40 : Int) < (s.size : Int)) = false) (ht : 1 < tries) :
    Calls Tryd.prog 3 #[.string s, .int .i64 14, .bool written, .int .i64 tries, .int .i64 most] W fun e w' => e = .returned (.bool true) ∧ Below W.heap.size W w' := by
  have h1 : decide (1 < tries) = true := by simpa using ht
  have HA := fun w => again_any w s 14 written tries most
  have HR := fun w => ref_any w s 14 written tries most
  have HF := fun w => final_any w 14
  rw [show finalB 14 = false from by decide +kernel] at HF
  generalize againB s 14 written tries most = z at *
  have HE := fun w => err_some w 14 tries (by decide)
  rw [show errL 14 tries = [(sAgain, 23), (sCall, 14), (⟨#[]⟩, 14)] from if_pos ht] at HE
  have hLH := Lib.hid hL
  clear ht hL
  go_enter Tryd.func3, Tryd.ntmps3
  go_wp2_with (first | (go_at_call 4; refine (alive_true _).mono ?_; rintro e w1 ⟨rfl, hb1⟩) | (go_at_call 5; refine (HA _).mono ?_; rintro e w2 ⟨rfl, hb2⟩; replace hb1 := below_trans hb1 hb2; clear hb2 HA) | (go_at_call 6; refine (HR _).mono ?_; rintro e w2 ⟨rfl, hd⟩; replace hb1 := below_drawn hb1 hd; clear hd HR) | (go_at_call 7; refine (HF _).mono ?_; rintro e w2 ⟨rfl, hd⟩; replace hb1 := below_drawn hb1 hd; clear hd HF) | (go_at_call 8; refine (HE _).mono ?_; rintro e w3 ⟨b, rfl, hch, hb3⟩; clear HE))
  have hL3 := hLH.out.on (below_trans hb1 hb3)
  have hb1 := Lib.hid (below_trans hb1 hb3)
  clear hb3
  have mE := methodError
  have hE := fun (w : World) (h : Below w3.heap.size w3 w) => Error_chain _ w w3.heap.size b (by simp only [List.mem_cons, List.not_mem_nil, or_false]; rintro x (rfl | rfl | rfl); exact szA; exact szC; exact Nat.zero_le _) (by simp) h.size (hch.under h (Nat.le_refl _))
  rw [show wordsOf [(sAgain, 23), (sCall, 14), (⟨#[]⟩, 14)] = ⟨#[97, 103, 97, 105, 110, 58, 32]⟩ ++ (⟨#[99, 97, 108, 108, 58, 32]⟩ ++ nameOf 14) from by
    have e1 : opW sAgain = ⟨#[97, 103, 97, 105, 110, 58, 32]⟩ := by decide +kernel
    have e2 : opW sCall = ⟨#[99, 97, 108, 108, 58, 32]⟩ := by decide +kernel
    have e3 : opW ⟨#[]⟩ = ⟨#[]⟩ := by decide +kernel
    simp [wordsOf, e1, e2, e3]
    exact ByteArray.empty_append] at hE
  have hC := fun (w : World) (h : Below w3.heap.size w3 w) => Code_chain w (hL3.on h) w3.heap.size b _ _ _ (hch.under h (Nat.le_refl _))
  have hH := fun (w : World) (h : Below w3.heap.size w3 w) => Has_chain w w3.heap.size h.size 14 b _ (hch.under h (Nat.le_refl _))
  have hM := fun (w : World) (h : Below w3.heap.size w3 w) => Has_chain w w3.heap.size h.size 23 b _ (hch.under h (Nat.le_refl _))
  rw [show hasB 14 [(sAgain, 23), (sCall, 14), (⟨#[]⟩, 14)] = true from by decide +kernel] at hH
  rw [show hasB 23 [(sAgain, 23), (sCall, 14), (⟨#[]⟩, 14)] = true from by simp [hasB]] at hM
  have hI := fun (w : World) (h : Below w3.heap.size w3 w) => Is_code w w3.heap.size h.size 14 (by decide) b _ (hch.under h (Nat.le_refl _))
  rw [show ([(sAgain, (23 : Int)), (sCall, 14), (⟨#[]⟩, 14)].any fun x => 14 == x.2) = true from by decide +kernel] at hI
  have hn := name_size 14
  go_wp2_with ((go_at_call 9; refine (name_any _ 14).mono ?_; rintro e w4 ⟨rfl, hb4⟩))
  have hX := belowT hb4 (below_new w4 (.cells #[.pointer none] 30))
  have hg := Lib.hid (heap_new w4 (.cells #[.pointer none] 30))
  have hgs := Lib.hid (show w4.heap.size < (w4.alloc (.cells #[.pointer none] 30)).heap.size from by rw [size_alloc]; omega)
  generalize w4.alloc (.cells #[.pointer none] 30) = X at *
  have hT := Below.refl X.heap.size X
  have hchH := Lib.hid hch
  have hs34 := Lib.hid hb4.size
  clear hch hb4
  go_wp2_with (first | (go_at_call 46; refine (hE _ (belowT hX hT)).mono ?_; rintro e w5 ⟨rfl, hb5⟩; replace hT := belowT hT hb5; clear hb5 hE) | (go_at_call 10; refine (hC _ (belowT hX hT)).mono ?_; rintro e w5 ⟨rfl, hb5⟩; replace hT := belowT hT hb5; clear hb5 hC) | (go_at_call 11; refine (hH _ (belowT hX hT)).mono ?_; rintro e w5 ⟨rfl, hb5⟩; replace hT := belowT hT hb5; clear hb5 hH) | (go_at_call 11; refine (hM _ (belowT hX hT)).mono ?_; rintro e w5 ⟨rfl, hb5⟩; replace hT := belowT hT hb5; clear hb5 hM) | (go_at_call 12; refine (As_fail _ (hL3.on (belowT hX hT)) b w4.heap.size _ ((hT.block w4.heap.size hgs.out).trans hg.out)).mono ?_; rintro e w6 ⟨rfl, hh, hcg, hbg, hk⟩; have hZ := (belowT hX hT).trans (hbg.mono hs34.out); obtain ⟨E6, hcb, _, _⟩ := (hchH.out.under hZ (Nat.le_refl _)).top; obtain ⟨c0, c1, c2⟩ := fcells hcb; clear hcb hbg) | (go_at_call 14; refine (new_some 14 (by decide) _).mono ?_; rintro e w7 ⟨rfl, rfl⟩) | (go_at_call 13; refine (hI _ hZ).mono ?_; rintro e w7 ⟨rfl, hb7⟩; clear hI))
  go_ret
  exact ⟨rfl, belowT (belowT hb1.out hZ) hb7⟩
set_option maxHeartbeats 2000000 in
theorem tell2_19 (W : World) (hL : Laid W) (s : ByteArray) (written : Bool) (tries most : Int) (hs : decide ((40 : Int) < (s.size : Int)) = false) (ht : 1 < tries) :
    Calls Tryd.prog 3 #[.string s, .int .i64 19, .bool written, .int .i64 tries, .int .i64 most] W fun e w' => e = .returned (.bool true) ∧ Below W.heap.size W w' := by
  have h1 : decide (1 < tries) = true := by simpa using ht
  have HA := fun w => again_any w s 19 written tries most
  have HR := fun w => ref_any w s 19 written tries most
  have HF := fun w => final_any w 19
  rw [show finalB 19 = false from by decide +kernel] at HF
  generalize againB s 19 written tries most = z at *
  have HE := fun w => err_some w 19 tries (by decide)
  rw [show errL 19 tries = [(sAgain, 23), (sCall, 19), (⟨#[]⟩, 19)] from if_pos ht] at HE
  have hLH := Lib.hid hL
  clear ht hL
  go_enter Tryd.func3, Tryd.ntmps3
  go_wp2_with (first | (go_at_call 4; refine (alive_true _).mono ?_; rintro e w1 ⟨rfl, hb1⟩) | (go_at_call 5; refine (HA _).mono ?_; rintro e w2 ⟨rfl, hb2⟩; replace hb1 := below_trans hb1 hb2; clear hb2 HA) | (go_at_call 6; refine (HR _).mono ?_; rintro e w2 ⟨rfl, hd⟩; replace hb1 := below_drawn hb1 hd; clear hd HR) | (go_at_call 7; refine (HF _).mono ?_; rintro e w2 ⟨rfl, hd⟩; replace hb1 := below_drawn hb1 hd; clear hd HF) | (go_at_call 8; refine (HE _).mono ?_; rintro e w3 ⟨b, rfl, hch, hb3⟩; clear HE))
  have hL3 := hLH.out.on (below_trans hb1 hb3)
  have hb1 := Lib.hid (below_trans hb1 hb3)
  clear hb3
  have mE := methodError
  have hE := fun (w : World) (h : Below w3.heap.size w3 w) => Error_chain _ w w3.heap.size b (by simp only [List.mem_cons, List.not_mem_nil, or_false]; rintro x (rfl | rfl | rfl); exact szA; exact szC; exact Nat.zero_le _) (by simp) h.size (hch.under h (Nat.le_refl _))
  rw [show wordsOf [(sAgain, 23), (sCall, 19), (⟨#[]⟩, 19)] = ⟨#[97, 103, 97, 105, 110, 58, 32]⟩ ++ (⟨#[99, 97, 108, 108, 58, 32]⟩ ++ nameOf 19) from by
    have e1 : opW sAgain = ⟨#[97, 103, 97, 105, 110, 58, 32]⟩ := by decide +kernel
    have e2 : opW sCall = ⟨#[99, 97, 108, 108, 58, 32]⟩ := by decide +kernel
    have e3 : opW ⟨#[]⟩ = ⟨#[]⟩ := by decide +kernel
    simp [wordsOf, e1, e2, e3]
    exact ByteArray.empty_append] at hE
  have hC := fun (w : World) (h : Below w3.heap.size w3 w) => Code_chain w (hL3.on h) w3.heap.size b _ _ _ (hch.under h (Nat.le_refl _))
  have hH := fun (w : World) (h : Below w3.heap.size w3 w) => Has_chain w w3.heap.size h.size 19 b _ (hch.under h (Nat.le_refl _))
  have hM := fun (w : World) (h : Below w3.heap.size w3 w) => Has_chain w w3.heap.size h.size 23 b _ (hch.under h (Nat.le_refl _))
  rw [show hasB 19 [(sAgain, 23), (sCall, 19), (⟨#[]⟩, 19)] = true from by decide +kernel] at hH
  rw [show hasB 23 [(sAgain, 23), (sCall, 19), (⟨#[]⟩, 19)] = true from by simp [hasB]] at hM
  have hI := fun (w : World) (h : Below w3.heap.size w3 w) => Is_code w w3.heap.size h.size 19 (by decide) b _ (hch.under h (Nat.le_refl _))
  rw [show ([(sAgain, (23 : Int)), (sCall, 19), (⟨#[]⟩, 19)].any fun x => 19 == x.2) = true from by decide +kernel] at hI
  have hn := name_size 19
  go_wp2_with ((go_at_call 9; refine (name_any _ 19).mono ?_; rintro e w4 ⟨rfl, hb4⟩))
  have hX := belowT hb4 (below_new w4 (.cells #[.pointer none] 30))
  have hg := Lib.hid (heap_new w4 (.cells #[.pointer none] 30))
  have hgs := Lib.hid (show w4.heap.size < (w4.alloc (.cells #[.pointer none] 30)).heap.size from by rw [size_alloc]; omega)
  generalize w4.alloc (.cells #[.pointer none] 30) = X at *
  have hT := Below.refl X.heap.size X
  have hchH := Lib.hid hch
  have hs34 := Lib.hid hb4.size
  clear hch hb4
  go_wp2_with (first | (go_at_call 46; refine (hE _ (belowT hX hT)).mono ?_; rintro e w5 ⟨rfl, hb5⟩; replace hT := belowT hT hb5; clear hb5 hE) | (go_at_call 10; refine (hC _ (belowT hX hT)).mono ?_; rintro e w5 ⟨rfl, hb5⟩; replace hT := belowT hT hb5; clear hb5 hC) | (go_at_call 11; refine (hH _ (belowT hX hT)).mono ?_; rintro e w5 ⟨rfl, hb5⟩; replace hT := belowT hT hb5; clear hb5 hH) | (go_at_call 11; refine (hM _ (belowT hX hT)).mono ?_; rintro e w5 ⟨rfl, hb5⟩; replace hT := belowT hT hb5; clear hb5 hM) | (go_at_call 12; refine (As_fail _ (hL3.on (belowT hX hT)) b w4.heap.size _ ((hT.block w4.heap.size hgs.out).trans hg.out)).mono ?_; rintro e w6 ⟨rfl, hh, hcg, hbg, hk⟩; have hZ := (belowT hX hT).trans (hbg.mono hs34.out); obtain ⟨E6, hcb, _, _⟩ := (hchH.out.under hZ (Nat.le_refl _)).top; obtain ⟨c0, c1, c2⟩ := fcells hcb; clear hcb hbg) | (go_at_call 14; refine (new_some 19 (by decide) _).mono ?_; rintro e w7 ⟨rfl, rfl⟩) | (go_at_call 13; refine (hI _ hZ).mono ?_; rintro e w7 ⟨rfl, hb7⟩; clear hI))
  go_ret
  exact ⟨rfl, belowT (belowT hb1.out hZ) hb7⟩
set_option maxHeartbeats 2000000 in
theorem tell2_16 (W : World) (hL : Laid W) (s : ByteArray) (written : Bool) (tries most : Int) (hs : decide ((40 : Int) < (s.size : Int)) = false) (ht : 1 < tries) :
    Calls Tryd.prog 3 #[.string s, .int .i64 16, .bool written, .int .i64 tries, .int .i64 most] W fun e w' => e = .returned (.bool true) ∧ Below W.heap.size W w' := by
  have h1 : decide (1 < tries) = true := by simpa using ht
  have HA := fun w => again_any w s 16 written tries most
  have HR := fun w => ref_any w s 16 written tries most
  have HF := fun w => final_any w 16
  rw [show finalB 16 = false from by decide +kernel] at HF
  generalize againB s 16 written tries most = z at *
  have HE := fun w => err_some w 16 tries (by decide)
  rw [show errL 16 tries = [(sAgain, 23), (sCall, 16), (⟨#[]⟩, 16)] from if_pos ht] at HE
  have hLH := Lib.hid hL
  clear ht hL
  go_enter Tryd.func3, Tryd.ntmps3
  go_wp2_with (first | (go_at_call 4; refine (alive_true _).mono ?_; rintro e w1 ⟨rfl, hb1⟩) | (go_at_call 5; refine (HA _).mono ?_; rintro e w2 ⟨rfl, hb2⟩; replace hb1 := below_trans hb1 hb2; clear hb2 HA) | (go_at_call 6; refine (HR _).mono ?_; rintro e w2 ⟨rfl, hd⟩; replace hb1 := below_drawn hb1 hd; clear hd HR) | (go_at_call 7; refine (HF _).mono ?_; rintro e w2 ⟨rfl, hd⟩; replace hb1 := below_drawn hb1 hd; clear hd HF) | (go_at_call 8; refine (HE _).mono ?_; rintro e w3 ⟨b, rfl, hch, hb3⟩; clear HE))
  have hL3 := hLH.out.on (below_trans hb1 hb3)
  have hb1 := Lib.hid (below_trans hb1 hb3)
  clear hb3
  have mE := methodError
  have hE := fun (w : World) (h : Below w3.heap.size w3 w) => Error_chain _ w w3.heap.size b (by simp only [List.mem_cons, List.not_mem_nil, or_false]; rintro x (rfl | rfl | rfl); exact szA; exact szC; exact Nat.zero_le _) (by simp) h.size (hch.under h (Nat.le_refl _))
  rw [show wordsOf [(sAgain, 23), (sCall, 16), (⟨#[]⟩, 16)] = ⟨#[97, 103, 97, 105, 110, 58, 32]⟩ ++ (⟨#[99, 97, 108, 108, 58, 32]⟩ ++ nameOf 16) from by
    have e1 : opW sAgain = ⟨#[97, 103, 97, 105, 110, 58, 32]⟩ := by decide +kernel
    have e2 : opW sCall = ⟨#[99, 97, 108, 108, 58, 32]⟩ := by decide +kernel
    have e3 : opW ⟨#[]⟩ = ⟨#[]⟩ := by decide +kernel
    simp [wordsOf, e1, e2, e3]
    exact ByteArray.empty_append] at hE
  have hC := fun (w : World) (h : Below w3.heap.size w3 w) => Code_chain w (hL3.on h) w3.heap.size b _ _ _ (hch.under h (Nat.le_refl _))
  have hH := fun (w : World) (h : Below w3.heap.size w3 w) => Has_chain w w3.heap.size h.size 16 b _ (hch.under h (Nat.le_refl _))
  have hM := fun (w : World) (h : Below w3.heap.size w3 w) => Has_chain w w3.heap.size h.size 23 b _ (hch.under h (Nat.le_refl _))
  rw [show hasB 16 [(sAgain, 23), (sCall, 16), (⟨#[]⟩, 16)] = true from by decide +kernel] at hH
  rw [show hasB 23 [(sAgain, 23), (sCall, 16), (⟨#[]⟩, 16)] = true from by simp [hasB]] at hM
  have hI := fun (w : World) (h : Below w3.heap.size w3 w) => Is_code w w3.heap.size h.size 16 (by decide) b _ (hch.under h (Nat.le_refl _))
  rw [show ([(sAgain, (23 : Int)), (sCall, 16), (⟨#[]⟩, 16)].any fun x => 16 == x.2) = true from by decide +kernel] at hI
  have hn := name_size 16
  go_wp2_with ((go_at_call 9; refine (name_any _ 16).mono ?_; rintro e w4 ⟨rfl, hb4⟩))
  have hX := belowT hb4 (below_new w4 (.cells #[.pointer none] 30))
  have hg := Lib.hid (heap_new w4 (.cells #[.pointer none] 30))
  have hgs := Lib.hid (show w4.heap.size < (w4.alloc (.cells #[.pointer none] 30)).heap.size from by rw [size_alloc]; omega)
  generalize w4.alloc (.cells #[.pointer none] 30) = X at *
  have hT := Below.refl X.heap.size X
  have hchH := Lib.hid hch
  have hs34 := Lib.hid hb4.size
  clear hch hb4
  go_wp2_with (first | (go_at_call 46; refine (hE _ (belowT hX hT)).mono ?_; rintro e w5 ⟨rfl, hb5⟩; replace hT := belowT hT hb5; clear hb5 hE) | (go_at_call 10; refine (hC _ (belowT hX hT)).mono ?_; rintro e w5 ⟨rfl, hb5⟩; replace hT := belowT hT hb5; clear hb5 hC) | (go_at_call 11; refine (hH _ (belowT hX hT)).mono ?_; rintro e w5 ⟨rfl, hb5⟩; replace hT := belowT hT hb5; clear hb5 hH) | (go_at_call 11; refine (hM _ (belowT hX hT)).mono ?_; rintro e w5 ⟨rfl, hb5⟩; replace hT := belowT hT hb5; clear hb5 hM) | (go_at_call 12; refine (As_fail _ (hL3.on (belowT hX hT)) b w4.heap.size _ ((hT.block w4.heap.size hgs.out).trans hg.out)).mono ?_; rintro e w6 ⟨rfl, hh, hcg, hbg, hk⟩; have hZ := (belowT hX hT).trans (hbg.mono hs34.out); obtain ⟨E6, hcb, _, _⟩ := (hchH.out.under hZ (Nat.le_refl _)).top; obtain ⟨c0, c1, c2⟩ := fcells hcb; clear hcb hbg) | (go_at_call 14; refine (new_some 16 (by decide) _).mono ?_; rintro e w7 ⟨rfl, rfl⟩) | (go_at_call 13; refine (hI _ hZ).mono ?_; rintro e w7 ⟨rfl, hb7⟩; clear hI))
  go_ret
  exact ⟨rfl, belowT (belowT hb1.out hZ) hb7⟩
set_option maxHeartbeats 2000000 in
theorem tell2_20 (W : World) (hL : Laid W) (s : ByteArray) (written : Bool) (tries most : Int) (hs : decide ((40 : Int) < (s.size : Int)) = false) (ht : 1 < tries) :
    Calls Tryd.prog 3 #[.string s, .int .i64 20, .bool written, .int .i64 tries, .int .i64 most] W fun e w' => e = .returned (.bool true) ∧ Below W.heap.size W w' := by
  have h1 : decide (1 < tries) = true := by simpa using ht
  have HA := fun w => again_any w s 20 written tries most
  have HR := fun w => ref_any w s 20 written tries most
  have HF := fun w => final_any w 20
  rw [show finalB 20 = false from by decide +kernel] at HF
  generalize againB s 20 written tries most = z at *
  have HE := fun w => err_some w 20 tries (by decide)
  rw [show errL 20 tries = [(sAgain, 23), (sCall, 20), (⟨#[]⟩, 20)] from if_pos ht] at HE
  have hLH := Lib.hid hL
  clear ht hL
  go_enter Tryd.func3, Tryd.ntmps3
  go_wp2_with (first | (go_at_call 4; refine (alive_true _).mono ?_; rintro e w1 ⟨rfl, hb1⟩) | (go_at_call 5; refine (HA _).mono ?_; rintro e w2 ⟨rfl, hb2⟩; replace hb1 := below_trans hb1 hb2; clear hb2 HA) | (go_at_call 6; refine (HR _).mono ?_; rintro e w2 ⟨rfl, hd⟩; replace hb1 := below_drawn hb1 hd; clear hd HR) | (go_at_call 7; refine (HF _).mono ?_; rintro e w2 ⟨rfl, hd⟩; replace hb1 := below_drawn hb1 hd; clear hd HF) | (go_at_call 8; refine (HE _).mono ?_; rintro e w3 ⟨b, rfl, hch, hb3⟩; clear HE))
  have hL3 := hLH.out.on (below_trans hb1 hb3)
  have hb1 := Lib.hid (below_trans hb1 hb3)
  clear hb3
  have mE := methodError
  have hE := fun (w : World) (h : Below w3.heap.size w3 w) => Error_chain _ w w3.heap.size b (by simp only [List.mem_cons, List.not_mem_nil, or_false]; rintro x (rfl | rfl | rfl); exact szA; exact szC; exact Nat.zero_le _) (by simp) h.size (hch.under h (Nat.le_refl _))
  rw [show wordsOf [(sAgain, 23), (sCall, 20), (⟨#[]⟩, 20)] = ⟨#[97, 103, 97, 105, 110, 58, 32]⟩ ++ (⟨#[99, 97, 108, 108, 58, 32]⟩ ++ nameOf 20) from by
    have e1 : opW sAgain = ⟨#[97, 103, 97, 105, 110, 58, 32]⟩ := by decide +kernel
    have e2 : opW sCall = ⟨#[99, 97, 108, 108, 58, 32]⟩ := by decide +kernel
    have e3 : opW ⟨#[]⟩ = ⟨#[]⟩ := by decide +kernel
    simp [wordsOf, e1, e2, e3]
    exact ByteArray.empty_append] at hE
  have hC := fun (w : World) (h : Below w3.heap.size w3 w) => Code_chain w (hL3.on h) w3.heap.size b _ _ _ (hch.under h (Nat.le_refl _))
  have hH := fun (w : World) (h : Below w3.heap.size w3 w) => Has_chain w w3.heap.size h.size 20 b _ (hch.under h (Nat.le_refl _))
  have hM := fun (w : World) (h : Below w3.heap.size w3 w) => Has_chain w w3.heap.size h.size 23 b _ (hch.under h (Nat.le_refl _))
  rw [show hasB 20 [(sAgain, 23), (sCall, 20), (⟨#[]⟩, 20)] = true from by decide +kernel] at hH
  rw [show hasB 23 [(sAgain, 23), (sCall, 20), (⟨#[]⟩, 20)] = true from by simp [hasB]] at hM
  have hI := fun (w : World) (h : Below w3.heap.size w3 w) => Is_code w w3.heap.size h.size 20 (by decide) b _ (hch.under h (Nat.le_refl _))
  rw [show ([(sAgain, (23 : Int)), (sCall, 20), (⟨#[]⟩, 20)].any fun x => 20 == x.2) = true from by decide +kernel] at hI
  have hn := name_size 20
  go_wp2_with ((go_at_call 9; refine (name_any _ 20).mono ?_; rintro e w4 ⟨rfl, hb4⟩))
  have hX := belowT hb4 (below_new w4 (.cells #[.pointer none] 30))
  have hg := Lib.hid (heap_new w4 (.cells #[.pointer none] 30))
  have hgs := Lib.hid (show w4.heap.size < (w4.alloc (.cells #[.pointer none] 30)).heap.size from by rw [size_alloc]; omega)
  generalize w4.alloc (.cells #[.pointer none] 30) = X at *
  have hT := Below.refl X.heap.size X
  have hchH := Lib.hid hch
  have hs34 := Lib.hid hb4.size
  clear hch hb4
  go_wp2_with (first | (go_at_call 46; refine (hE _ (belowT hX hT)).mono ?_; rintro e w5 ⟨rfl, hb5⟩; replace hT := belowT hT hb5; clear hb5 hE) | (go_at_call 10; refine (hC _ (belowT hX hT)).mono ?_; rintro e w5 ⟨rfl, hb5⟩; replace hT := belowT hT hb5; clear hb5 hC) | (go_at_call 11; refine (hH _ (belowT hX hT)).mono ?_; rintro e w5 ⟨rfl, hb5⟩; replace hT := belowT hT hb5; clear hb5 hH) | (go_at_call 11; refine (hM _ (belowT hX hT)).mono ?_; rintro e w5 ⟨rfl, hb5⟩; replace hT := belowT hT hb5; clear hb5 hM) | (go_at_call 12; refine (As_fail _ (hL3.on (belowT hX hT)) b w4.heap.size _ ((hT.block w4.heap.size hgs.out).trans hg.out)).mono ?_; rintro e w6 ⟨rfl, hh, hcg, hbg, hk⟩; have hZ := (belowT hX hT).trans (hbg.mono hs34.out); obtain ⟨E6, hcb, _, _⟩ := (hchH.out.under hZ (Nat.le_refl _)).top; obtain ⟨c0, c1, c2⟩ := fcells hcb; clear hcb hbg) | (go_at_call 14; refine (new_some 20 (by decide) _).mono ?_; rintro e w7 ⟨rfl, rfl⟩) | (go_at_call 13; refine (hI _ hZ).mono ?_; rintro e w7 ⟨rfl, hb7⟩; clear hI))
  go_ret
  exact ⟨rfl, belowT (belowT hb1.out hZ) hb7⟩
set_option maxHeartbeats 2000000 in
theorem tell2_18 (W : World) (hL : Laid W) (s : ByteArray) (written : Bool) (tries most : Int) (hs : decide ((40 : Int) < (s.size : Int)) = false) (ht : 1 < tries) :
    Calls Tryd.prog 3 #[.string s, .int .i64 18, .bool written, .int .i64 tries, .int .i64 most] W fun e w' => e = .returned (.bool true) ∧ Below W.heap.size W w' := by
  have h1 : decide (1 < tries) = true := by simpa using ht
  have HA := fun w => again_any w s 18 written tries most
  have HR := fun w => ref_any w s 18 written tries most
  have HF := fun w => final_any w 18
  rw [show finalB 18 = false from by decide +kernel] at HF
  generalize againB s 18 written tries most = z at *
  have HE := fun w => err_some w 18 tries (by decide)
  rw [show errL 18 tries = [(sAgain, 23), (sCall, 18), (⟨#[]⟩, 18)] from if_pos ht] at HE
  have hLH := Lib.hid hL
  clear ht hL
  go_enter Tryd.func3, Tryd.ntmps3
  go_wp2_with (first | (go_at_call 4; refine (alive_true _).mono ?_; rintro e w1 ⟨rfl, hb1⟩) | (go_at_call 5; refine (HA _).mono ?_; rintro e w2 ⟨rfl, hb2⟩; replace hb1 := below_trans hb1 hb2; clear hb2 HA) | (go_at_call 6; refine (HR _).mono ?_; rintro e w2 ⟨rfl, hd⟩; replace hb1 := below_drawn hb1 hd; clear hd HR) | (go_at_call 7; refine (HF _).mono ?_; rintro e w2 ⟨rfl, hd⟩; replace hb1 := below_drawn hb1 hd; clear hd HF) | (go_at_call 8; refine (HE _).mono ?_; rintro e w3 ⟨b, rfl, hch, hb3⟩; clear HE))
  have hL3 := hLH.out.on (below_trans hb1 hb3)
  have hb1 := Lib.hid (below_trans hb1 hb3)
  clear hb3
  have mE := methodError
  have hE := fun (w : World) (h : Below w3.heap.size w3 w) => Error_chain _ w w3.heap.size b (by simp only [List.mem_cons, List.not_mem_nil, or_false]; rintro x (rfl | rfl | rfl); exact szA; exact szC; exact Nat.zero_le _) (by simp) h.size (hch.under h (Nat.le_refl _))
  rw [show wordsOf [(sAgain, 23), (sCall, 18), (⟨#[]⟩, 18)] = ⟨#[97, 103, 97, 105, 110, 58, 32]⟩ ++ (⟨#[99, 97, 108, 108, 58, 32]⟩ ++ nameOf 18) from by
    have e1 : opW sAgain = ⟨#[97, 103, 97, 105, 110, 58, 32]⟩ := by decide +kernel
    have e2 : opW sCall = ⟨#[99, 97, 108, 108, 58, 32]⟩ := by decide +kernel
    have e3 : opW ⟨#[]⟩ = ⟨#[]⟩ := by decide +kernel
    simp [wordsOf, e1, e2, e3]
    exact ByteArray.empty_append] at hE
  have hC := fun (w : World) (h : Below w3.heap.size w3 w) => Code_chain w (hL3.on h) w3.heap.size b _ _ _ (hch.under h (Nat.le_refl _))
  have hH := fun (w : World) (h : Below w3.heap.size w3 w) => Has_chain w w3.heap.size h.size 18 b _ (hch.under h (Nat.le_refl _))
  have hM := fun (w : World) (h : Below w3.heap.size w3 w) => Has_chain w w3.heap.size h.size 23 b _ (hch.under h (Nat.le_refl _))
  rw [show hasB 18 [(sAgain, 23), (sCall, 18), (⟨#[]⟩, 18)] = true from by decide +kernel] at hH
  rw [show hasB 23 [(sAgain, 23), (sCall, 18), (⟨#[]⟩, 18)] = true from by simp [hasB]] at hM
  have hI := fun (w : World) (h : Below w3.heap.size w3 w) => Is_code w w3.heap.size h.size 18 (by decide) b _ (hch.under h (Nat.le_refl _))
  rw [show ([(sAgain, (23 : Int)), (sCall, 18), (⟨#[]⟩, 18)].any fun x => 18 == x.2) = true from by decide +kernel] at hI
  have hn := name_size 18
  go_wp2_with ((go_at_call 9; refine (name_any _ 18).mono ?_; rintro e w4 ⟨rfl, hb4⟩))
  have hX := belowT hb4 (below_new w4 (.cells #[.pointer none] 30))
  have hg := Lib.hid (heap_new w4 (.cells #[.pointer none] 30))
  have hgs := Lib.hid (show w4.heap.size < (w4.alloc (.cells #[.pointer none] 30)).heap.size from by rw [size_alloc]; omega)
  generalize w4.alloc (.cells #[.pointer none] 30) = X at *
  have hT := Below.refl X.heap.size X
  have hchH := Lib.hid hch
  have hs34 := Lib.hid hb4.size
  clear hch hb4
  go_wp2_with (first | (go_at_call 46; refine (hE _ (belowT hX hT)).mono ?_; rintro e w5 ⟨rfl, hb5⟩; replace hT := belowT hT hb5; clear hb5 hE) | (go_at_call 10; refine (hC _ (belowT hX hT)).mono ?_; rintro e w5 ⟨rfl, hb5⟩; replace hT := belowT hT hb5; clear hb5 hC) | (go_at_call 11; refine (hH _ (belowT hX hT)).mono ?_; rintro e w5 ⟨rfl, hb5⟩; replace hT := belowT hT hb5; clear hb5 hH) | (go_at_call 11; refine (hM _ (belowT hX hT)).mono ?_; rintro e w5 ⟨rfl, hb5⟩; replace hT := belowT hT hb5; clear hb5 hM) | (go_at_call 12; refine (As_fail _ (hL3.on (belowT hX hT)) b w4.heap.size _ ((hT.block w4.heap.size hgs.out).trans hg.out)).mono ?_; rintro e w6 ⟨rfl, hh, hcg, hbg, hk⟩; have hZ := (belowT hX hT).trans (hbg.mono hs34.out); obtain ⟨E6, hcb, _, _⟩ := (hchH.out.under hZ (Nat.le_refl _)).top; obtain ⟨c0, c1, c2⟩ := fcells hcb; clear hcb hbg) | (go_at_call 14; refine (new_some 18 (by decide) _).mono ?_; rintro e w7 ⟨rfl, rfl⟩) | (go_at_call 13; refine (hI _ hZ).mono ?_; rintro e w7 ⟨rfl, hb7⟩; clear hI))
  go_ret
  exact ⟨rfl, belowT (belowT hb1.out hZ) hb7⟩
set_option maxHeartbeats 2000000 in
theorem tell2_23 (W : World) (hL : Laid W) (s : ByteArray) (written : Bool) (tries most : Int) (hs : decide ((40 : Int) < (s.size : Int)) = false) (ht : 1 < tries) :
    Calls Tryd.prog 3 #[.string s, .int .i64 23, .bool written, .int .i64 tries, .int .i64 most] W fun e w' => e = .returned (.bool true) ∧ Below W.heap.size W w' := by
  have h1 : decide (1 < tries) = true := by simpa using ht
  have HA := fun w => again_any w s 23 written tries most
  have HR := fun w => ref_any w s 23 written tries most
  have HF := fun w => final_any w 23
  rw [show finalB 23 = true from by decide +kernel] at HF
  generalize againB s 23 written tries most = z at *
  have HE := fun w => err_some w 23 tries (by decide)
  rw [show errL 23 tries = [(sAgain, 23), (sCall, 23), (⟨#[]⟩, 23)] from if_pos ht] at HE
  have hLH := Lib.hid hL
  clear ht hL
  go_enter Tryd.func3, Tryd.ntmps3
  go_wp2_with (first | (go_at_call 4; refine (alive_true _).mono ?_; rintro e w1 ⟨rfl, hb1⟩) | (go_at_call 5; refine (HA _).mono ?_; rintro e w2 ⟨rfl, hb2⟩; replace hb1 := below_trans hb1 hb2; clear hb2 HA) | (go_at_call 6; refine (HR _).mono ?_; rintro e w2 ⟨rfl, hd⟩; replace hb1 := below_drawn hb1 hd; clear hd HR) | (go_at_call 7; refine (HF _).mono ?_; rintro e w2 ⟨rfl, hd⟩; replace hb1 := below_drawn hb1 hd; clear hd HF) | (go_at_call 8; refine (HE _).mono ?_; rintro e w3 ⟨b, rfl, hch, hb3⟩; clear HE))
  have hL3 := hLH.out.on (below_trans hb1 hb3)
  have hb1 := Lib.hid (below_trans hb1 hb3)
  clear hb3
  have mE := methodError
  have hE := fun (w : World) (h : Below w3.heap.size w3 w) => Error_chain _ w w3.heap.size b (by simp only [List.mem_cons, List.not_mem_nil, or_false]; rintro x (rfl | rfl | rfl); exact szA; exact szC; exact Nat.zero_le _) (by simp) h.size (hch.under h (Nat.le_refl _))
  rw [show wordsOf [(sAgain, 23), (sCall, 23), (⟨#[]⟩, 23)] = ⟨#[97, 103, 97, 105, 110, 58, 32]⟩ ++ (⟨#[99, 97, 108, 108, 58, 32]⟩ ++ nameOf 23) from by
    have e1 : opW sAgain = ⟨#[97, 103, 97, 105, 110, 58, 32]⟩ := by decide +kernel
    have e2 : opW sCall = ⟨#[99, 97, 108, 108, 58, 32]⟩ := by decide +kernel
    have e3 : opW ⟨#[]⟩ = ⟨#[]⟩ := by decide +kernel
    simp [wordsOf, e1, e2, e3]
    exact ByteArray.empty_append] at hE
  have hC := fun (w : World) (h : Below w3.heap.size w3 w) => Code_chain w (hL3.on h) w3.heap.size b _ _ _ (hch.under h (Nat.le_refl _))
  have hH := fun (w : World) (h : Below w3.heap.size w3 w) => Has_chain w w3.heap.size h.size 23 b _ (hch.under h (Nat.le_refl _))
  have hM := fun (w : World) (h : Below w3.heap.size w3 w) => Has_chain w w3.heap.size h.size 23 b _ (hch.under h (Nat.le_refl _))
  rw [show hasB 23 [(sAgain, 23), (sCall, 23), (⟨#[]⟩, 23)] = true from by decide +kernel] at hH
  rw [show hasB 23 [(sAgain, 23), (sCall, 23), (⟨#[]⟩, 23)] = true from by simp [hasB]] at hM
  have hI := fun (w : World) (h : Below w3.heap.size w3 w) => Is_code w w3.heap.size h.size 23 (by decide) b _ (hch.under h (Nat.le_refl _))
  rw [show ([(sAgain, (23 : Int)), (sCall, 23), (⟨#[]⟩, 23)].any fun x => 23 == x.2) = true from by decide +kernel] at hI
  have hn := name_size 23
  go_wp2_with ((go_at_call 9; refine (name_any _ 23).mono ?_; rintro e w4 ⟨rfl, hb4⟩))
  have hX := belowT hb4 (below_new w4 (.cells #[.pointer none] 30))
  have hg := Lib.hid (heap_new w4 (.cells #[.pointer none] 30))
  have hgs := Lib.hid (show w4.heap.size < (w4.alloc (.cells #[.pointer none] 30)).heap.size from by rw [size_alloc]; omega)
  generalize w4.alloc (.cells #[.pointer none] 30) = X at *
  have hT := Below.refl X.heap.size X
  have hchH := Lib.hid hch
  have hs34 := Lib.hid hb4.size
  clear hch hb4
  go_wp2_with (first | (go_at_call 46; refine (hE _ (belowT hX hT)).mono ?_; rintro e w5 ⟨rfl, hb5⟩; replace hT := belowT hT hb5; clear hb5 hE) | (go_at_call 10; refine (hC _ (belowT hX hT)).mono ?_; rintro e w5 ⟨rfl, hb5⟩; replace hT := belowT hT hb5; clear hb5 hC) | (go_at_call 11; refine (hH _ (belowT hX hT)).mono ?_; rintro e w5 ⟨rfl, hb5⟩; replace hT := belowT hT hb5; clear hb5 hH) | (go_at_call 11; refine (hM _ (belowT hX hT)).mono ?_; rintro e w5 ⟨rfl, hb5⟩; replace hT := belowT hT hb5; clear hb5 hM) | (go_at_call 12; refine (As_fail _ (hL3.on (belowT hX hT)) b w4.heap.size _ ((hT.block w4.heap.size hgs.out).trans hg.out)).mono ?_; rintro e w6 ⟨rfl, hh, hcg, hbg, hk⟩; have hZ := (belowT hX hT).trans (hbg.mono hs34.out); obtain ⟨E6, hcb, _, _⟩ := (hchH.out.under hZ (Nat.le_refl _)).top; obtain ⟨c0, c1, c2⟩ := fcells hcb; clear hcb hbg) | (go_at_call 14; refine (new_some 23 (by decide) _).mono ?_; rintro e w7 ⟨rfl, rfl⟩) | (go_at_call 13; refine (hI _ hZ).mono ?_; rintro e w7 ⟨rfl, hb7⟩; clear hI))
  go_ret
  exact ⟨rfl, belowT (belowT hb1.out hZ) hb7⟩
set_option maxHeartbeats 2000000 in
theorem tell2_c (W : World) (hL : Laid W) (s : ByteArray) (c : Int) (written : Bool) (tries most : Int) (hs : decide ((40 : Int) < (s.size : Int)) = false) (ht : 1 < tries) (hc : c ≠ 0) (hk : (c == 15) = false ∧ (c == 14) = false ∧ (c == 19) = false ∧ (c == 16) = false ∧ (c == 20) = false ∧ (c == 18) = false ∧ (c == 23) = false) :
    Calls Tryd.prog 3 #[.string s, .int .i64 c, .bool written, .int .i64 tries, .int .i64 most] W fun e w' => e = .returned (.bool true) ∧ Below W.heap.size W w' := by
  obtain ⟨k1, k2, k3, k4, k5, k6, k7⟩ := hk
  have k8 : ((23 : Int) == c) = false := by rw [BEq.comm]; exact k7
  have m1 : (c != 15) = true := by simpa using k1
  have m2 : (c != 14) = true := by simpa using k2
  have m3 : (c != 19) = true := by simpa using k3
  have m4 : (c != 16) = true := by simpa using k4
  have m5 : (c != 20) = true := by simpa using k5
  have m6 : (c != 18) = true := by simpa using k6
  have m7 : (c != 23) = true := by simpa using k7
  have h0 : (c == 0) = false := by simpa using hc
  have h1 : decide (1 < tries) = true := by simpa using ht
  have HA := fun w => again_any w s c written tries most
  have HR := fun w => ref_any w s c written tries most
  have HF := fun w => final_any w c
  rw [show finalB c = true from by simp [finalB, k1, k2, k3, k4, k5, k6]] at HF
  generalize againB s c written tries most = z at *
  have HE := fun w => err_some w c tries hc
  rw [show errL c tries = [(sAgain, 23), (sCall, c), (⟨#[]⟩, c)] from if_pos ht] at HE
  have hLH := Lib.hid hL
  clear ht hL
  go_enter Tryd.func3, Tryd.ntmps3
  go_wp2_with (first | (go_at_call 4; refine (alive_true _).mono ?_; rintro e w1 ⟨rfl, hb1⟩) | (go_at_call 5; refine (HA _).mono ?_; rintro e w2 ⟨rfl, hb2⟩; replace hb1 := below_trans hb1 hb2; clear hb2 HA) | (go_at_call 6; refine (HR _).mono ?_; rintro e w2 ⟨rfl, hd⟩; replace hb1 := below_drawn hb1 hd; clear hd HR) | (go_at_call 7; refine (HF _).mono ?_; rintro e w2 ⟨rfl, hd⟩; replace hb1 := below_drawn hb1 hd; clear hd HF) | (go_at_call 8; refine (HE _).mono ?_; rintro e w3 ⟨b, rfl, hch, hb3⟩; clear HE))
  have hL3 := hLH.out.on (below_trans hb1 hb3)
  have hb1 := Lib.hid (below_trans hb1 hb3)
  clear hb3
  have mE := methodError
  have hE := fun (w : World) (h : Below w3.heap.size w3 w) => Error_chain _ w w3.heap.size b (by simp only [List.mem_cons, List.not_mem_nil, or_false]; rintro x (rfl | rfl | rfl); exact szA; exact szC; exact Nat.zero_le _) (by simp) h.size (hch.under h (Nat.le_refl _))
  rw [show wordsOf [(sAgain, 23), (sCall, c), (⟨#[]⟩, c)] = ⟨#[97, 103, 97, 105, 110, 58, 32]⟩ ++ (⟨#[99, 97, 108, 108, 58, 32]⟩ ++ nameOf c) from by
    have e1 : opW sAgain = ⟨#[97, 103, 97, 105, 110, 58, 32]⟩ := by decide +kernel
    have e2 : opW sCall = ⟨#[99, 97, 108, 108, 58, 32]⟩ := by decide +kernel
    have e3 : opW ⟨#[]⟩ = ⟨#[]⟩ := by decide +kernel
    simp [wordsOf, e1, e2, e3]
    exact ByteArray.empty_append] at hE
  have hC := fun (w : World) (h : Below w3.heap.size w3 w) => Code_chain w (hL3.on h) w3.heap.size b _ _ _ (hch.under h (Nat.le_refl _))
  have hH := fun (w : World) (h : Below w3.heap.size w3 w) => Has_chain w w3.heap.size h.size c b _ (hch.under h (Nat.le_refl _))
  have hM := fun (w : World) (h : Below w3.heap.size w3 w) => Has_chain w w3.heap.size h.size 23 b _ (hch.under h (Nat.le_refl _))
  rw [show hasB c [(sAgain, 23), (sCall, c), (⟨#[]⟩, c)] = true from by simp [hasB, hc]] at hH
  rw [show hasB 23 [(sAgain, 23), (sCall, c), (⟨#[]⟩, c)] = true from by simp [hasB]] at hM
  have hI := fun (w : World) (h : Below w3.heap.size w3 w) => Is_code w w3.heap.size h.size c hc b _ (hch.under h (Nat.le_refl _))
  rw [show ([(sAgain, (23 : Int)), (sCall, c), (⟨#[]⟩, c)].any fun x => c == x.2) = true from by simp] at hI
  have hn := name_size c
  go_wp2_with ((go_at_call 9; refine (name_any _ c).mono ?_; rintro e w4 ⟨rfl, hb4⟩))
  have hX := belowT hb4 (below_new w4 (.cells #[.pointer none] 30))
  have hg := Lib.hid (heap_new w4 (.cells #[.pointer none] 30))
  have hgs := Lib.hid (show w4.heap.size < (w4.alloc (.cells #[.pointer none] 30)).heap.size from by rw [size_alloc]; omega)
  generalize w4.alloc (.cells #[.pointer none] 30) = X at *
  have hT := Below.refl X.heap.size X
  have hchH := Lib.hid hch
  have hs34 := Lib.hid hb4.size
  clear hch hb4
  go_wp2_with (first | (go_at_call 46; refine (hE _ (belowT hX hT)).mono ?_; rintro e w5 ⟨rfl, hb5⟩; replace hT := belowT hT hb5; clear hb5 hE) | (go_at_call 10; refine (hC _ (belowT hX hT)).mono ?_; rintro e w5 ⟨rfl, hb5⟩; replace hT := belowT hT hb5; clear hb5 hC) | (go_at_call 11; refine (hH _ (belowT hX hT)).mono ?_; rintro e w5 ⟨rfl, hb5⟩; replace hT := belowT hT hb5; clear hb5 hH) | (go_at_call 11; refine (hM _ (belowT hX hT)).mono ?_; rintro e w5 ⟨rfl, hb5⟩; replace hT := belowT hT hb5; clear hb5 hM) | (go_at_call 12; refine (As_fail _ (hL3.on (belowT hX hT)) b w4.heap.size _ ((hT.block w4.heap.size hgs.out).trans hg.out)).mono ?_; rintro e w6 ⟨rfl, hh, hcg, hbg, hk⟩; have hZ := (belowT hX hT).trans (hbg.mono hs34.out); obtain ⟨E6, hcb, _, _⟩ := (hchH.out.under hZ (Nat.le_refl _)).top; obtain ⟨c0, c1, c2⟩ := fcells hcb; clear hcb hbg) | (go_at_call 14; refine (new_some c hc _).mono ?_; rintro e w7 ⟨rfl, rfl⟩) | (go_at_call 13; refine (hI _ hZ).mono ?_; rintro e w7 ⟨rfl, hb7⟩; clear hI))
  go_ret
  exact ⟨rfl, belowT (belowT hb1.out hZ) hb7⟩
end Go.Proofs.YtckfmokbebmlbaaDoor.Fail
