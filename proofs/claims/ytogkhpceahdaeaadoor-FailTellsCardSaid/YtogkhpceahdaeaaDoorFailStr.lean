/- What errors.Is does with a chain of failures and an error of errors.New's make: a contract. Conditions: those that it names. -/
import Derived.Test.YtogkhpceahdaeaaDoorFailIs
namespace Go.Proofs.YtogkhpceahdaeaaDoor.Fail
open Go.RowKit Go.Extern.Stop Go.Stop Go.Extern
set_option linter.unusedVariables false
set_option linter.unusedSimpArgs false
abbrev serr (b : Nat) : Value := .iface 51 (ref b)

theorem new_str (w : World) (s : ByteArray) : Calls Tryd.prog 16 #[.string s] w fun e w' => e = .returned (serr w.heap.size) ∧ w' = w.alloc (.cells #[.string s] 53 (0, 0)) := by
  go_enter Tryd.func16, Tryd.ntmps16
  go_wp2
  go_ret
  exact ⟨rfl, rfl⟩
theorem is_str (w : World) (b t : Nat) : Calls Tryd.prog 15 #[ref b, serr t] w fun e w' => e = .returned (.bool false) ∧ ∃ n, w' = w.drewN n := by
  have ha := asE
  go_enter Tryd.func15, Tryd.ntmps15
  go_wp2
  (try go_quiet (fail))
  (try go_wp2)
  go_ret
  first | exact ⟨rfl, 0, rfl⟩ | exact ⟨rfl, _, rfl⟩ | exact ⟨by simp, _, rfl⟩

theorem is_chain_str (W : World) (B t : Nat) (E : Value) (l : List (ByteArray × Int)) (hl : l ≠ []) (hch : Chain W B E l) :
    Calls Tryd.prog 30 #[E, serr t, .bool true] W fun e w' => e = .returned (.bool false) ∧ ∃ n, w' = W.drewN n := by
  have nI := hasIsF
  have nU := hasUnwrapF
  go_enter Tryd.func30, Tryd.ntmps30
  go_wp2
  go_loopw [0] (fun E' wl => ∃ n, wl = W.drewN n ∧ ∃ l', l' ≠ [] ∧ Chain W B E' l') (fun E' _ => chainLen W B E')
  case atStart => exact ⟨0, rfl, l, hl, hch⟩
  case round =>
    obtain ⟨n, rfl, l', hl', hc'⟩ := hrel
    cases hc' with
    | nil => exact absurd rfl hl'
    | node b op c E1 l1 hb hcell h1 =>
      have heq := fun w : World => run_eql_iface_types (P := Tryd.prog) 26 51 (ref b) (ref t) Tryd.underlying28 (by decide) w
      have mI := methodIs
      have mU := methodUnwrap
      have HI := is_str (W.drewN n) b t
      have HU := fun m : Nat => unwrap_some (W.drewN m) b op c E1 hcell
      have hlen := chainLen_eq h1
      have hlen0 := chainLen_eq (Chain.node b op c E1 l1 hb hcell h1)
      cases h1 with
      | nil =>
        go_wp2_with (first | (go_at_call 15; refine HI.mono ?_; rintro e w' ⟨rfl, m, rfl⟩) | (go_at_call 14; refine (HU _).mono ?_; rintro e w' ⟨rfl, rfl⟩))
        go_ret
        exact ⟨rfl, _, rfl⟩
      | node b2 op2 c2 E2 l2 hb2 hcell2 h2 =>
        have HC : Hid (Chain W B (err b2) ((op2, c2) :: l2)) := Chain.node b2 op2 c2 E2 l2 hb2 hcell2 h2
        clear h2 hcell2
        go_wp2_with (first | (go_at_call 15; refine HI.mono ?_; rintro e w' ⟨rfl, m, rfl⟩) | (go_at_call 14; refine (HU _).mono ?_; rintro e w' ⟨rfl, rfl⟩))
        go_roundw
        case rel => exact ⟨_, rfl, _, by simp, HC.out⟩
        case measure =>
          show chainLen W B (err b2) < chainLen W B (err b)
          rw [hlen, hlen0]; simp

theorem isTypeOfE (v : Value) (w : World) : (Extern.ReflectliteType.typeOf #[.iface 51 v]).run Tryd.prog w = .ok (.iface 71 (.agg #[.pointer (some ⟨1, 51, none⟩)])) w := by kernel_rfl
theorem isComparableE (w : World) : (compE #[.agg #[.pointer (some ⟨1, 51, none⟩)]]).run Tryd.prog w = .ok (.bool true) w := by kernel_rfl

theorem Is_str (W : World) (B t : Nat) (b : Nat) (l : List (ByteArray × Int)) (hch : Chain W B (err b) l) :
    Calls Tryd.prog 22 #[err b, serr t] W fun e w' => e = .returned (.bool false) ∧ ∃ n, w' = W.drewN n := by
  have hl : l ≠ [] := by intro h; subst h; cases hch
  have hT := @run_callFunc_extern Tryd.prog 29 _ Extern.ReflectliteType.typeOf Tryd.func29 (by kernel_rfl) (by kernel_rfl) (by kernel_rfl) (by kernel_rfl)
  have hCo := @run_callFunc_extern Tryd.prog 56 _ compE Tryd.func56 (by kernel_rfl) (by kernel_rfl) (by kernel_rfl) (by kernel_rfl)
  have tT := isTypeOfE
  have cT := isComparableE
  have mR := isMethodComparable
  have hcon := is_chain_str W B t (err b) l hl hch
  have hl2 := Lib.hid hl
  clear hch hl
  go_enter Tryd.func22, Tryd.ntmps22
  go_wp2_with ((go_at_call 30; refine hcon.mono ?_; rintro e w' ⟨rfl, m, rfl⟩))
  go_ret
  exact ⟨rfl, _, rfl⟩
end Go.Proofs.YtogkhpceahdaeaaDoor.Fail
