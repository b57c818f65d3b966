/- What fail.Code answers, by errors.As: contracts of the calls. Conditions: that errors.errorType is laid, and those that each contract names. -/
import Derived.Test.YtogkhpceahdaeaaDoorFailAs
namespace Go.Proofs.YtogkhpceahdaeaaDoor.Fail
open Go.RowKit Go.Extern.Stop Go.Stop Go.Extern
set_option linter.unusedVariables false
set_option linter.unusedSimpArgs false

theorem belowT {W W1 W2 : World} (h : Below W.heap.size W W1) (k : Below W1.heap.size W1 W2) : Below W.heap.size W W2 := h.trans (k.mono h.size)
/-- errors.errorType is as the text lays it. -/
def Laid (W : World) : Prop := W.cell? ⟨0, 0, none⟩ = some (.iface 71 (.agg #[.pointer (some ⟨1, 28, none⟩)]))
theorem Laid.lt {W : World} (h : Laid W) : 0 < W.heap.size := by
  rcases Nat.lt_or_ge 0 W.heap.size with h1 | h1
  · exact h1
  · simp [Laid, World.cell?, Array.getElem?_eq_none h1] at h
theorem Laid.under {W W' : World} {n : Nat} (h : Laid W) (hb : Below n W W') (hn : 0 < n) : Laid W' := (hb.cell (p := ⟨0, 0, none⟩) hn).trans h
theorem Laid.on {W W' : World} (h : Laid W) (hb : Below W.heap.size W W') : Laid W' := h.under hb h.lt

theorem As_fail (W : World) (hL : Laid W) (b g : Nat) (old : Value) (h0 : W.heap[g]? = some (.cells #[old] 26 (0, 0))) :
    Calls Tryd.prog 17 #[err b, .iface 38 (ref g)] W fun e w' => e = .returned (.bool true) ∧ Hid (w'.heap[g]? = some (.cells #[ref b] 26 (0, 0))) ∧ w'.cell? ⟨g, 0, none⟩ = some (ref b) ∧ Below g W w' ∧ Hid (∀ k, k < W.heap.size → k ≠ g → w'.heap[k]? = W.heap[k]?) := by
  have hgs : g < W.heap.size := by
    rcases Nat.lt_or_ge g W.heap.size with h1 | h1
    · exact h1
    · rw [Array.getElem?_eq_none h1] at h0; cases h0
  have hc : W.cell? ⟨g, 0, none⟩ = some old := by simp [World.cell?, h0]
  have hf : W.frozen? ⟨g, 0, none⟩ = false := by simp [World.frozen?, h0]
  refine (as_hit ⟨b, 0, none⟩ ⟨g, 0, none⟩ old W hL hc hf).mono fun e w' h => ?_
  obtain ⟨he, hw⟩ := h
  have hh : w'.heap[g]? = some (.cells #[ref b] 26 (0, 0)) := by
    subst hw
    simp only [World.setCell, Array.getElem?_modify]
    rw [if_pos trivial, Below.heap_alloc _ _ _ (by simp; omega), Below.heap_alloc _ _ _ (by simp; omega), Below.heap_alloc _ _ _ (by simp; omega), Below.heap_alloc _ _ _ hgs, h0]
    rfl
  have hk : ∀ k, k < W.heap.size → k ≠ g → w'.heap[k]? = W.heap[k]? := by
    intro k hk hne
    subst hw
    rw [Below.heap_setCell _ _ _ _ hne, Below.heap_alloc _ _ _ (by simp; omega), Below.heap_alloc _ _ _ (by simp; omega), Below.heap_alloc _ _ _ (by simp; omega), Below.heap_alloc _ _ _ hk]
  refine ⟨he, Lib.hid hh, by simp [World.cell?, hh], ?_, Lib.hid hk⟩
  subst hw
  have B4 := belowT (belowT (belowT (below_new W (.cells #[.pointer (some ⟨g, 0, none⟩)] 38)) (below_new _ (.cells #[.pointer (some ⟨1, 38, none⟩), .pointer (some ⟨W.heap.size, 0, none⟩), .int .u64 150] 57))) (below_new _ (.cells #[.pointer (some ⟨1, 38, none⟩), .pointer (some ⟨W.heap.size, 0, none⟩), .int .u64 150] 57))) (below_new _ (.cells #[.pointer (some ⟨b, 0, none⟩)] 26))
  exact (B4.mono (Nat.le_of_lt hgs)).setCell (Nat.le_refl _) _
theorem As_new (W : World) (hL : Laid W) (b : Nat) (op : ByteArray) (c : Int) (E : Value) (hb : W.heap[b]? = some (failure op c E)) :
    Calls Tryd.prog 17 #[err b, .iface 38 (ref W.heap.size)] (W.alloc (.cells #[.pointer none] 26)) fun e w' => e = .returned (.bool true) ∧ w'.cell? ⟨W.heap.size, 0, none⟩ = some (ref b) ∧ w'.cell? ⟨b, 0, none⟩ = some (.string op) ∧ w'.cell? ⟨b, 1, none⟩ = some (.int .i64 c) ∧ w'.cell? ⟨b, 2, none⟩ = some E ∧ Below W.heap.size W w' := by
  refine (As_fail (W.alloc (.cells #[.pointer none] 26)) (hL.on (below_new _ _)) b W.heap.size _ (heap_new _ _)).mono fun e w' h => ?_
  obtain ⟨he, _, hc, hB, _⟩ := h
  have hB := (below_new W (.cells #[.pointer none] 26)).trans hB
  have hbs : b < W.heap.size := by
    rcases Nat.lt_or_ge b W.heap.size with h1 | h1
    · exact h1
    · rw [Array.getElem?_eq_none h1] at hb; cases hb
  obtain ⟨c0, c1, c2⟩ := fcells ((hB.block b hbs).trans hb)
  exact ⟨he, hc, c0, c1, c2, hB⟩

theorem Code_nil (W : World) : Calls Tryd.prog 18 #[.nilIface] W fun e w' => e = .returned (.int .i64 0) ∧ w' = W := by
  go_enter Tryd.func18, Tryd.ntmps18
  go_wp2
  go_ret
  exact ⟨rfl, rfl⟩
theorem Code_err (W : World) (hL : Laid W) (b : Nat) (op : ByteArray) (c : Int) (E : Value) (hb : W.heap[b]? = some (failure op c E)) :
    Calls Tryd.prog 18 #[err b] W fun e w' => e = .returned (.int .i64 c) ∧ Below W.heap.size W w' := by
  have HA := As_new W hL b op c E hb
  clear hb hL
  go_enter Tryd.func18, Tryd.ntmps18
  go_wp2_with ((go_at_call 17; refine HA.mono ?_; rintro e w1 ⟨rfl, hc, h0, h1, h2, hb1⟩; clear HA))
  go_ret
  exact ⟨rfl, hb1⟩
theorem Chain.top {W : World} {B b : Nat} {op : ByteArray} {c : Int} {l : List (ByteArray × Int)} (h : Chain W B (err b) ((op, c) :: l)) : ∃ E, W.heap[b]? = some (failure op c E) ∧ b < B ∧ Chain W B E l := by
  cases h with
  | node _ _ _ E _ hb hc h1 => exact ⟨E, hc, hb, h1⟩
theorem Code_chain (W : World) (hL : Laid W) (B b : Nat) (op : ByteArray) (c : Int) (l : List (ByteArray × Int)) (h : Chain W B (err b) ((op, c) :: l)) :
    Calls Tryd.prog 18 #[err b] W fun e w' => e = .returned (.int .i64 c) ∧ Below W.heap.size W w' := by
  obtain ⟨E, hc, _, _⟩ := h.top
  exact Code_err W hL b op c E hc
end Go.Proofs.YtogkhpceahdaeaaDoor.Fail
