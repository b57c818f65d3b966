/- What errors.Is does with a chain of failures and a bare failure, and what fail.Has and its kin answer: contracts of the calls. Conditions: those that each contract names. -/
import Derived.Test.YtogkhpceahdaeaaDoorFail
namespace Go.Proofs.YtogkhpceahdaeaaDoor.Fail
open Go.RowKit Go.Extern.Stop Go.Stop Go.Extern
set_option linter.unusedVariables false
set_option linter.unusedSimpArgs false

theorem isTypeOf (v : Value) (w : World) : (Extern.ReflectliteType.typeOf #[.iface 26 v]).run Tryd.prog w = .ok (.iface 71 (.agg #[.pointer (some ⟨1, 26, none⟩)])) w := by kernel_rfl
noncomputable def compE : Array Value → Sem Value := Extern.ReflectliteType.method fun t => do Extern.Rtype.noPackHeld "Comparable" t; pure (.bool (← typeInfo t).comparable)
theorem isComparable (w : World) : (compE #[.agg #[.pointer (some ⟨1, 26, none⟩)]]).run Tryd.prog w = .ok (.bool true) w := by kernel_rfl
theorem isMethodComparable (v : Value) (w : World) : (Go.method 212 71 v "Comparable").run Tryd.prog w = .ok (56, v) w := by kernel_rfl

theorem Chain.heap {W W' : World} {B : Nat} {E : Value} {l : List (ByteArray × Int)} (h : Chain W B E l) (hw : ∀ k, k < B → W'.heap[k]? = W.heap[k]?) : Chain W' B E l := by
  induction h with
  | nil => exact .nil
  | node b op c E1 l1 hb hc h1 ih => exact .node b op c E1 l1 hb ((hw b hb).trans hc) ih
theorem Chain.drewN {W : World} {B : Nat} {E : Value} {l : List (ByteArray × Int)} (h : Chain W B E l) (n : Nat) : Chain (W.drewN n) B E l := h.heap fun _ _ => rfl
theorem Chain.under {W W' : World} {B B' : Nat} {E : Value} {l : List (ByteArray × Int)} (h : Chain W B E l) (hw : Below B' W W') (hB : B ≤ B') : Chain W' B E l := h.heap fun k hk => hw.block k (Nat.lt_of_lt_of_le hk hB)
theorem Chain.up {W : World} {B B' : Nat} {E : Value} {l : List (ByteArray × Int)} (h : Chain W B E l) (hB : B ≤ B') : Chain W B' E l := by
  induction h with
  | nil => exact .nil
  | node b op c E1 l1 hb hc h1 ih => exact .node b op c E1 l1 (Nat.lt_of_lt_of_le hb hB) hc ih

theorem Is_chain (W : World) (B t : Nat) (c' : Int) (hc' : c' ≠ 0) (hB : B ≤ t) (ht : W.heap[t]? = some (failure ⟨#[]⟩ c' .nilIface)) (b : Nat) (l : List (ByteArray × Int)) (hch : Chain W B (err b) l) :
    Calls Tryd.prog 22 #[err b, err t] W fun e w' => e = .returned (.bool (l.any fun x => c' == x.2)) ∧ ∃ n, w' = W.drewN n := by
  have hl : l ≠ [] := by intro h; subst h; cases hch
  have hT := @run_callFunc_extern Tryd.prog 29 _ Extern.ReflectliteType.typeOf Tryd.func29 (by kernel_rfl) (by kernel_rfl) (by kernel_rfl) (by kernel_rfl)
  have hCo := @run_callFunc_extern Tryd.prog 56 _ compE Tryd.func56 (by kernel_rfl) (by kernel_rfl) (by kernel_rfl) (by kernel_rfl)
  have tT := isTypeOf
  have cT := isComparable
  have mR := isMethodComparable
  have hcon := is_chain W B t c' hc' hB ht (err b) l hl hch
  have hl2 := Lib.hid hl
  clear hch ht hl
  go_enter Tryd.func22, Tryd.ntmps22
  go_wp2_with ((go_at_call 30; refine hcon.mono ?_; rintro e w' ⟨rfl, m, rfl⟩))
  go_ret
  exact ⟨rfl, _, rfl⟩

theorem Is_chain_nil (W : World) (b : Nat) : Calls Tryd.prog 22 #[err b, .nilIface] W fun e w' => e = .returned (.bool false) ∧ W = w' := by
  go_enter Tryd.func22, Tryd.ntmps22
  go_wp2
  go_ret
  exact ⟨rfl, rfl⟩
theorem Is_nil_some (W : World) (t : Nat) : Calls Tryd.prog 22 #[.nilIface, err t] W fun e w' => e = .returned (.bool false) ∧ W = w' := by
  have hn := run_eql_iface_nil_left (P := Tryd.prog) W 26 (ref t) Tryd.underlying28
  go_enter Tryd.func22, Tryd.ntmps22
  go_wp2
  go_ret
  exact ⟨rfl, rfl⟩
end Go.Proofs.YtogkhpceahdaeaaDoor.Fail
