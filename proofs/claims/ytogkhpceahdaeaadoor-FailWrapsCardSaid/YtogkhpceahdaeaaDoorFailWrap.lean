/- What fail.Wrap makes: contracts of the calls. Conditions: that errors.errorType is laid, and those that each contract names. -/
import Derived.Test.YtogkhpceahdaeaaDoorFailWords
namespace Go.Proofs.YtogkhpceahdaeaaDoor.Fail
open Go.RowKit Go.Extern.Stop Go.Stop Go.Extern
set_option linter.unusedVariables false
set_option linter.unusedSimpArgs false

theorem Wrap_nil (W : World) (op : ByteArray) : Calls Tryd.prog 19 #[.string op, .nilIface] W fun e w' => e = .returned .nilIface ∧ W = w' := by
  go_enter Tryd.func19, Tryd.ntmps19
  go_wp2
  go_ret
  exact ⟨rfl, rfl⟩
theorem Wrap_err (W : World) (hL : Laid W) (b : Nat) (op : ByteArray) (op1 : ByteArray) (c : Int) (l : List (ByteArray × Int)) (hch : Chain W W.heap.size (err b) ((op1, c) :: l)) :
    Calls Tryd.prog 19 #[.string op, err b] W fun e w' => ∃ b', e = .returned (err b') ∧ Chain w' w'.heap.size (err b') ((op, c) :: (op1, c) :: l) ∧ Below W.heap.size W w' := by
  have HC := fun (w : World) (h : Below W.heap.size W w) => Code_chain w (hL.on h) W.heap.size b op1 c l (hch.under h (Nat.le_refl _))
  have hcH := Lib.hid hch
  clear hL hch
  go_enter Tryd.func19, Tryd.ntmps19
  go_wp2_with ((go_at_call 18; refine (HC _ ?hb).mono ?_; (case hb => first | exact Below.refl _ _ | exact below_new _ _); rintro e w1 ⟨rfl, hb1⟩; clear HC))
  go_ret
  refine ⟨_, rfl, ?_, belowT hb1 (below_new _ _)⟩
  exact .node _ _ _ (err b) _ (by simp) (heap_new w1 (failure op c (err b))) ((hcH.out.under (belowT hb1 (below_new w1 _)) (Nat.le_refl _)).up (by have := hb1.size; simp; omega))

theorem chainN (W : World) (op : ByteArray) (c : Int) : Chain (W.alloc (failure op c .nilIface)) (W.alloc (failure op c .nilIface)).heap.size (err W.heap.size) [(op, c)] :=
  .node _ _ _ _ _ (by simp) (heap_new W _) .nil
theorem sizeA (W : World) (o : Obj) : (W.alloc o).heap.size = W.heap.size + 1 := by simp [World.alloc_eq]

theorem alive_true (W : World) (hL : Laid W) : Calls Tryd.prog 8 #[] W fun e w' => e = .returned (.bool true) ∧ Below W.heap.size W w' := by
  have HW := fun op => Wrap_err (W.alloc (failure ⟨#[]⟩ 13 .nilIface)) (hL.on (below_new _ _)) W.heap.size op ⟨#[]⟩ 13 [] (chainN W ⟨#[]⟩ 13)
  have hLH := Lib.hid hL
  have mE := methodError
  clear hL
  go_enter Tryd.func8, Tryd.ntmps8
  go_wp2_with ((go_at_call 10; refine (new_some 13 (by decide) _).mono ?_; rintro e w1 ⟨rfl, rfl⟩))
  go_wp2_with ((go_at_call 19; refine (HW _).mono ?_; rintro e w1 ⟨b, rfl, hch, hb1⟩; clear HW))
  have hL1 := hLH.out.under (belowT (below_new W _) hb1) hLH.out.lt
  have h1 := Lib.hid (belowT (below_new W (failure ⟨#[]⟩ 13 .nilIface)) hb1)
  clear hb1
  have HE := Error_chain _ w1 w1.heap.size b (by decide) (by decide) (Nat.le_refl _) hch
  rw [show wordsOf [(⟨#[111, 112, 101, 110]⟩, 13), (⟨#[]⟩, 13)] = ⟨#[111, 112, 101, 110, 58, 32, 98, 117, 115, 121]⟩ from by decide +kernel] at HE
  have HC := fun (w : World) (h : Below w1.heap.size w1 w) => Code_chain w (hL1.on h) w1.heap.size b _ _ _ (hch.under h (Nat.le_refl _))
  have HH := fun (w : World) (h : Below w1.heap.size w1 w) (c : Int) => Has_chain w w1.heap.size h.size c b _ (hch.under h (Nat.le_refl _))
  have HN := fun (w : World) => name_any w 18
  rw [show nameOf 18 = ⟨#[108, 97, 116, 101]⟩ from by decide +kernel] at HN
  have e13 := Lib.hid (show hasB 13 [(⟨#[111, 112, 101, 110]⟩, 13), (⟨#[]⟩, 13)] = true from by decide +kernel)
  have e14 := Lib.hid (show hasB 14 [(⟨#[111, 112, 101, 110]⟩, 13), (⟨#[]⟩, 13)] = false from by decide +kernel)
  clear hL1 hch
  go_wp2_with (first | (go_at_call 10; refine (new_zero _).mono ?_; rintro e w2 ⟨rfl, rfl⟩) | (go_at_call 13; refine HE.mono ?_; rintro e w2 ⟨rfl, hb2⟩; clear HE))
  go_wp2_with ((go_at_call 18; refine (HC _ hb2).mono ?_; rintro e w3 ⟨rfl, hb3⟩; clear HC))
  have h13 := HH _ (belowT hb2 hb3) 13
  rw [e13.out] at h13
  go_wp2_with ((go_at_call 21; refine h13.mono ?_; rintro e w4 ⟨rfl, hb4⟩; clear h13))
  have h14 := HH _ (belowT (belowT hb2 hb3) hb4) 14
  rw [e14.out] at h14
  go_wp2_with (first | (go_at_call 21; refine h14.mono ?_; rintro e w5 ⟨rfl, hb5⟩; clear h14) | (go_at_call 9; refine (HN _).mono ?_; rintro e w6 ⟨rfl, hb6⟩))
  go_ret
  exact ⟨rfl, belowT h1.out (belowT (belowT (belowT (belowT hb2 hb3) hb4) hb5) hb6)⟩
end Go.Proofs.YtogkhpceahdaeaaDoor.Fail
