/- The law FailUnwraps answers true: the walk. Conditions: that errors.errorType is laid. -/
import Derived.Test.YtogkhpceahdaeaaDoorFailWrap
import Derived.Test.YtogkhpceahdaeaaDoorFailPath
namespace Go.Proofs.YtogkhpceahdaeaaDoor.Fail
open Go.RowKit Go.Extern.Stop Go.Stop Go.Extern
set_option linter.unusedVariables false
set_option linter.unusedSimpArgs false

theorem unwraps_zero (W : World) (hL : Laid W) (op : ByteArray) : Calls Tryd.prog 5 #[.int .i64 0, .string op] W fun e w' => e = .returned (.bool true) ∧ Below W.heap.size W w' := by
  have HA := alive_true W hL
  clear hL
  go_enter Tryd.func5, Tryd.ntmps5
  go_wp2_with ((go_at_call 8; refine HA.mono ?_; rintro e w1 ⟨rfl, hb1⟩; clear HA))
  go_ret
  exact ⟨rfl, hb1⟩
theorem unwraps_long (W : World) (hL : Laid W) (c : Int) (op : ByteArray) (hc : c ≠ 0) (ho : decide ((60 : Int) < (op.size : Int)) = true) : Calls Tryd.prog 5 #[.int .i64 c, .string op] W fun e w' => e = .returned (.bool true) ∧ Below W.heap.size W w' := by
  have h0 : (c == 0) = false := by simpa using hc
  have HA := alive_true W hL
  clear hL
  go_enter Tryd.func5, Tryd.ntmps5
  go_wp2_with ((go_at_call 8; refine HA.mono ?_; rintro e w1 ⟨rfl, hb1⟩; clear HA))
  go_ret
  exact ⟨rfl, hb1⟩
theorem As_two (W : World) (hL : Laid W) (a : Nat) : Calls Tryd.prog 17 #[err a, .iface 38 (ref W.heap.size)] ((W.alloc (.cells #[.pointer none] 26)).alloc (.cells #[.pointer none] 26)) fun e w' =>
    e = .returned (.bool true) ∧ Hid (w'.heap[W.heap.size]? = some (.cells #[ref a] 26 (0, 0)) ∧ w'.heap[W.heap.size + 1]? = some (.cells #[.pointer none] 26 (0, 0))) ∧ Below W.heap.size W w' := by
  have hB2 := belowT (below_new W (.cells #[.pointer none] 26)) (below_new _ (.cells #[.pointer none] 26))
  have h1 : ((W.alloc (.cells #[.pointer none] 26)).alloc (.cells #[.pointer none] 26)).heap[W.heap.size]? = some (.cells #[.pointer none] 26 (0, 0)) := by
    rw [heap_old _ _ _ (by rw [sizeA]; omega)]; exact heap_new _ _
  have h2 : ((W.alloc (.cells #[.pointer none] 26)).alloc (.cells #[.pointer none] 26)).heap[W.heap.size + 1]? = some (.cells #[.pointer none] 26 (0, 0)) := by
    have := heap_new (W.alloc (.cells #[.pointer none] 26)) (.cells #[.pointer none] 26)
    rwa [sizeA] at this
  refine (As_fail _ (hL.on hB2) a W.heap.size _ h1).mono fun e w' h => ?_
  obtain ⟨he, hh, _, hB, hk⟩ := h
  exact ⟨he, Lib.hid ⟨hh.out, (hk.out (W.heap.size + 1) (by rw [sizeA, sizeA]; omega) (by omega)).trans h2⟩, hB2.trans hB⟩

set_option maxHeartbeats 1000000 in
theorem unwraps_some (W : World) (hL : Laid W) (c : Int) (op : ByteArray) (hc : c ≠ 0) (ho : decide ((60 : Int) < (op.size : Int)) = false) : Calls Tryd.prog 5 #[.int .i64 c, .string op] W fun e w' => e = .returned (.bool true) ∧ Below W.heap.size W w' := by
  have h0 : (c == 0) = false := by simpa using hc
  have HA := alive_true W hL
  have hLH := Lib.hid hL
  clear hL
  go_enter Tryd.func5, Tryd.ntmps5
  go_wp2_with ((go_at_call 8; refine HA.mono ?_; rintro e w1 ⟨rfl, hb1⟩; clear HA))
  have hL1 := hLH.out.on hb1
  have HW := fun op => Wrap_err (w1.alloc (failure ⟨#[]⟩ c .nilIface)) (hL1.on (below_new _ _)) w1.heap.size op ⟨#[]⟩ c [] (chainN w1 ⟨#[]⟩ c)
  go_wp2_with (first | (go_at_call 10; refine (new_some c hc _).mono ?_; rintro e w2 ⟨rfl, rfl⟩) | (go_at_call 19; refine (HW _).mono ?_; rintro e w3 ⟨b, rfl, hch, hb3⟩; clear HW))
  have hb13 := Lib.hid (belowT (below_new w1 (failure ⟨#[]⟩ c .nilIface)) hb3)
  have hL3 := Lib.hid (hL1.on hb13.out)
  have ha3 := Lib.hid (((hb3.block w1.heap.size (by rw [sizeA]; omega)).trans (heap_new w1 _)) : w3.heap[w1.heap.size]? = some (failure ⟨#[]⟩ c .nilIface))
  have hs3 := Lib.hid (show w1.heap.size < w3.heap.size by have := hb3.size; rw [sizeA] at this; omega)
  obtain ⟨E, hbE, hbs, hchE⟩ := hch.top
  cases hchE with
  | node b2 _ _ E2 _ hb2 hcE2 h2 =>
    cases h2
    have hbE := Lib.hid hbE
    have hcE2 := Lib.hid hcE2
    have hbs := Lib.hid hbs
    have hb2 := Lib.hid hb2
    have HA1 := As_two w3 hL3.out w1.heap.size
    clear hL1 hb3 hch
    go_wp2_with ((go_at_call 17; refine HA1.mono ?_; rintro e w5 ⟨rfl, h5, hb5⟩; clear HA1))
    have HA2 := As_fail w5 (hL3.out.on hb5) b (w3.heap.size + 1) _ h5.out.2
    go_wp2_with (first | (go_at_call 17; refine HA2.mono ?_; rintro e w6 ⟨rfl, hg6, hgc, hb6, hk6⟩; clear HA2; have hf6 : w6.heap[w3.heap.size]? = _ := (hb6.block w3.heap.size (Nat.lt_succ_self _)).trans h5.out.1; have hb36 := hb5.trans (hb6.mono (Nat.le_succ _)); have hfc : w6.cell? ⟨w3.heap.size, 0, none⟩ = some (ref w1.heap.size) := (by simp [World.cell?, hf6]); have hA6 := (hb36.block w1.heap.size hs3.out).trans ha3.out; have hB6 := (hb36.block b hbs.out).trans hbE.out; have hC6 := (hb36.block b2 hb2.out).trans hcE2.out; obtain ⟨ca0, ca1, ca2⟩ := fcells hA6; obtain ⟨cb0, cb1, cb2⟩ := fcells hB6; have HU1 := unwrap_some w6 w1.heap.size _ _ _ hA6; have HU2 := unwrap_some w6 b _ _ _ hB6; have HV := errUnwrap_some w6 b _ _ _ hB6; have hL6 := hL3.out.on hb36; have HC := Code_err w6 hL6 b2 _ _ _ hC6; have hB6 := Lib.hid hB6; have hC6 := Lib.hid hC6; have hbs6 := Lib.hid (show b < w6.heap.size from Nat.lt_of_lt_of_le hbs.out hb36.size); have hb26 := Lib.hid (show b2 < w6.heap.size from Nat.lt_of_lt_of_le hb2.out hb36.size); clear hb6 hf6 hA6 hL6) | (go_at_call 14; refine HU1.mono ?_; rintro e w' ⟨rfl, rfl⟩; clear HU1) | (go_at_call 14; refine HU2.mono ?_; rintro e w' ⟨rfl, rfl⟩; clear HU2) | (go_at_call 20; refine HV.mono ?_; rintro e w' ⟨rfl, rfl⟩; clear HV) | (go_at_call 18; refine HC.mono ?_; rintro e w7 ⟨rfl, hb7⟩; clear HC; have HV1 := errUnwrap_some w7 b _ _ _ ((hb7.block b hbs6.out).trans hB6.out); have HV2 := errUnwrap_some w7 b2 _ _ _ ((hb7.block b2 hb26.out).trans hC6.out)) | (go_at_call 20; refine HV1.mono ?_; rintro e w' ⟨rfl, rfl⟩; clear HV1) | (go_at_call 20; refine HV2.mono ?_; rintro e w' ⟨rfl, rfl⟩; clear HV2))
    go_ret
    exact ⟨rfl, belowT hb1 (belowT hb13.out (belowT hb36 hb7))⟩
theorem FailUnwraps_all (W : World) (hL : Laid W) (c : Int) (op : ByteArray) : Calls Tryd.prog 5 #[.int .i64 c, .string op] W fun e w' => e = .returned (.bool true) ∧ Below W.heap.size W w' := by
  by_cases hc : c = 0
  · subst hc; exact unwraps_zero W hL op
  · cases h : decide ((60 : Int) < (op.size : Int))
    · exact unwraps_some W hL c op hc h
    · exact unwraps_long W hL c op hc h
end Go.Proofs.YtogkhpceahdaeaaDoor.Fail
