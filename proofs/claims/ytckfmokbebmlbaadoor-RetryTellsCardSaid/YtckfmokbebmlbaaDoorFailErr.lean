/- What retry.Err answers, and the laws' first call: contracts of the calls. Conditions: those that each contract names. -/
import Derived.Test.YtckfmokbebmlbaaDoorFailAgain
namespace Go.Proofs.YtckfmokbebmlbaaDoor.Fail
open Go.RowKit Go.Extern.Stop Go.Stop Go.Extern
set_option linter.unusedVariables false
set_option linter.unusedSimpArgs false

theorem err_zero (W : World) (tries : Int) : Calls Tryd.prog 8 #[.int .i64 0, .int .i64 tries] W fun e w' => e = .returned .nilIface ∧ W = w' := by
  go_enter Tryd.func8, Tryd.ntmps8
  go_wp2
  go_ret
  exact ⟨rfl, rfl⟩
def sCall : ByteArray := ⟨#[99, 97, 108, 108]⟩
def sAgain : ByteArray := ⟨#[97, 103, 97, 105, 110]⟩
/-- The failures of which retry.Err's error is made. -/
def errL (c tries : Int) : List (ByteArray × Int) := if 1 < tries then [(sAgain, 23), (sCall, c), (⟨#[]⟩, c)] else [(sCall, c), (⟨#[]⟩, c)]
theorem chain2 (W : World) (op : ByteArray) (c : Int) : Chain ((W.alloc (failure ⟨#[]⟩ c .nilIface)).alloc (failure op c (err W.heap.size))) (W.heap.size + 2) (err (W.heap.size + 1)) [(op, c), (⟨#[]⟩, c)] := by
  refine .node _ _ _ (err W.heap.size) _ (by omega) ?_ ?_
  · have := heap_new (W.alloc (failure ⟨#[]⟩ c .nilIface)) (failure op c (err W.heap.size))
    rwa [size_alloc] at this
  · exact ((chain_new W ⟨#[]⟩ c).under (below_new _ _) (by rw [size_alloc]; exact Nat.le_refl _)).up (by omega)
theorem chain3 (W : World) (op op2 : ByteArray) (c c2 : Int) : Chain (((W.alloc (failure ⟨#[]⟩ c .nilIface)).alloc (failure op c (err W.heap.size))).alloc (failure op2 c2 (err (W.heap.size + 1)))) (W.heap.size + 3) (err (W.heap.size + 2)) [(op2, c2), (op, c), (⟨#[]⟩, c)] := by
  refine .node _ _ _ (err (W.heap.size + 1)) _ (by omega) ?_ ?_
  · have := heap_new ((W.alloc (failure ⟨#[]⟩ c .nilIface)).alloc (failure op c (err W.heap.size))) (failure op2 c2 (err (W.heap.size + 1)))
    rwa [size_alloc, size_alloc] at this
  · exact ((chain2 W op c).under (below_new _ _) (by rw [size_alloc, size_alloc]; exact Nat.le_refl _)).up (by omega)
theorem below2 (W : World) (o o' : Obj) : Below W.heap.size W ((W.alloc o).alloc o') := below_trans (below_new _ _) (below_new _ _)

theorem err_some (W : World) (c tries : Int) (hc : c ≠ 0) : Calls Tryd.prog 8 #[.int .i64 c, .int .i64 tries] W fun e w' =>
    ∃ b, e = .returned (err b) ∧ Chain w' w'.heap.size (err b) (errL c tries) ∧ Below W.heap.size W w' := by
  have h0 : (c == 0) = false := by simpa using hc
  by_cases ht : 1 < tries
  · have h1 : decide (1 < tries) = true := by simpa using ht
    have hf : errL c tries = [(sAgain, 23), (sCall, c), (⟨#[]⟩, c)] := if_pos ht
    have hf := Lib.hid hf
    clear ht
    go_enter Tryd.func8, Tryd.ntmps8
    go_wp2_with (first | (go_at_call 14; refine (new_some c hc _).mono ?_; rintro e w' ⟨rfl, rfl⟩) | (go_at_call 18; refine (Join_err _ _ _ _ _).mono ?_; rintro e w' ⟨rfl, rfl⟩))
    go_ret
    refine ⟨_, rfl, ?_, below_trans (below2 _ _ _) (below_new _ _)⟩
    rw [hf.out]
    have := chain3 W sCall sAgain c 23
    simp only [size_alloc]
    exact this
  · have h1 : decide (1 < tries) = false := by simpa using ht
    have hf : errL c tries = [(sCall, c), (⟨#[]⟩, c)] := if_neg ht
    have hf := Lib.hid hf
    clear ht
    go_enter Tryd.func8, Tryd.ntmps8
    go_wp2_with (first | (go_at_call 14; refine (new_some c hc _).mono ?_; rintro e w' ⟨rfl, rfl⟩) | (go_at_call 18; refine (Join_err _ _ _ _ _).mono ?_; rintro e w' ⟨rfl, rfl⟩))
    go_ret
    refine ⟨_, rfl, ?_, below2 _ _ _⟩
    rw [hf.out]
    have := chain2 W sCall c
    simp only [size_alloc]
    exact this

theorem alive_true (W : World) : Calls Tryd.prog 4 #[] W fun e w' => e = .returned (.bool true) ∧ Below W.heap.size W w' := by
  have a1 := fun w => again_any w ⟨#[80, 79, 83, 84]⟩ 15 true 1 4
  have a2 := fun w => again_any w ⟨#[80, 79, 83, 84]⟩ 16 true 1 4
  rw [show againB ⟨#[80, 79, 83, 84]⟩ 15 true 1 4 = true from by decide +kernel] at a1
  rw [show againB ⟨#[80, 79, 83, 84]⟩ 16 true 1 4 = false from by decide +kernel] at a2
  have e1 := err_some W 16 2 (by decide)
  have f1 := fun w => final_any w 11
  rw [show finalB 11 = true from by decide +kernel] at f1
  go_enter Tryd.func4, Tryd.ntmps4
  go_wp2_with ((go_at_call 8; refine e1.mono ?_; rintro e w1 ⟨b, rfl, hch, hb1⟩; clear e1))
  go_wp2_with ((go_at_call 5; refine (a1 _).mono ?_; rintro e w2 ⟨rfl, hb2⟩; clear a1))
  go_wp2_with ((go_at_call 5; refine (a2 _).mono ?_; rintro e w3 ⟨rfl, hb3⟩; clear a2))
  go_wp2_with ((go_at_call 8; refine (err_zero _ 3).mono ?_; rintro e w4 ⟨rfl, rfl⟩))
  have H16 := Has_chain w3 w1.heap.size (Nat.le_trans hb2.size hb3.size) 16 b _ (hch.under (below_trans hb2 hb3) (Nat.le_refl _))
  rw [show hasB 16 (errL 16 2) = true from by decide +kernel] at H16
  go_wp2_with ((go_at_call 11; refine H16.mono ?_; rintro e w4 ⟨rfl, hb4⟩; clear H16))
  have hb14 := below_trans (below_trans hb2 hb3) hb4
  have H23 := Has_chain w4 w1.heap.size hb14.size 23 b _ (hch.under hb14 (Nat.le_refl _))
  rw [show hasB 23 (errL 16 2) = true from by decide +kernel] at H23
  clear hch
  go_wp2_with (first | (go_at_call 11; refine H23.mono ?_; rintro e w5 ⟨rfl, hb5⟩; clear H23) | (go_at_call 7; refine (f1 _).mono ?_; rintro e w6 ⟨rfl, n, rfl⟩))
  go_ret
  exact ⟨rfl, below_drewN (below_trans hb1 (below_trans hb14 hb5)) _⟩
end Go.Proofs.YtckfmokbebmlbaaDoor.Fail
