/- What fail.Has and fail.Join answer: contracts of the calls. Conditions: those that each contract names. -/
import Derived.Test.YtogkhpceahdaeaaDoorFailIs
import Derived.Deep.WholeRow
namespace Go.Proofs.YtogkhpceahdaeaaDoor.Fail
open Go.RowKit Go.Extern.Stop Go.Stop Go.Extern
set_option linter.unusedVariables false
set_option linter.unusedSimpArgs false

theorem below_new (W : World) (o : Obj) : Below W.heap.size W (W.alloc o) := (Below.refl _ _).alloc (Nat.le_refl _) o
theorem below_drewN {B : Nat} {a w : World} (h : Below B a w) (n : Nat) : Below B a (w.drewN n) := ⟨h.os, h.tape, h.output, h.size, h.block⟩
theorem heap_new (W : World) (o : Obj) : (W.alloc o).heap[W.heap.size]? = some o := heap_alloc_last W o
theorem heap_old (W : World) (o : Obj) (k : Nat) (h : k < W.heap.size) : (W.alloc o).heap[k]? = W.heap[k]? := Below.heap_alloc W o k h

/-- Is some code of the chain's this one? -/
def hasB (c : Int) (l : List (ByteArray × Int)) : Bool := c != 0 && l.any fun x => c == x.2

theorem Has_chain (W : World) (B : Nat) (hB : B ≤ W.heap.size) (c : Int) (b : Nat) (l : List (ByteArray × Int)) (hch : Chain W B (err b) l) :
    Calls Tryd.prog 21 #[err b, .int .i64 c] W fun e w' => e = .returned (.bool (hasB c l)) ∧ Below W.heap.size W w' := by
  by_cases hc : c = 0
  · subst hc
    go_enter Tryd.func21, Tryd.ntmps21
    go_wp2_with (first | (go_at_call 10; refine (new_zero _).mono ?_; rintro e w' ⟨rfl, rfl⟩) | (go_at_call 22; refine (Is_chain_nil _ b).mono ?_; rintro e w' ⟨rfl, rfl⟩))
    go_ret
    exact ⟨rfl, Below.refl _ _⟩
  · have hch2 : Chain (W.alloc (failure ⟨#[]⟩ c .nilIface)) B (err b) l := hch.under (below_new W _) hB
    have HI := Is_chain (W.alloc (failure ⟨#[]⟩ c .nilIface)) B W.heap.size c hc hB (heap_new W _) b l hch2
    have hfin : hasB c l = (l.any fun x => c == x.2) := by simp [hasB, hc]
    have hfin := Lib.hid hfin
    clear hch hch2
    go_enter Tryd.func21, Tryd.ntmps21
    go_wp2_with (first | (go_at_call 10; refine (new_some c hc _).mono ?_; rintro e w' ⟨rfl, rfl⟩) | (go_at_call 22; refine HI.mono ?_; rintro e w' ⟨rfl, n, rfl⟩))
    go_ret
    exact ⟨by rw [hfin.out]; rfl, below_drewN (below_new W _) _⟩

theorem Join_nil (W : World) (op : ByteArray) (c : Int) :
    Calls Tryd.prog 11 #[.string op, .int .i64 c, .nilIface] W fun e w' => e = .returned (err W.heap.size) ∧ w' = W.alloc (failure op c .nilIface) := by
  go_enter Tryd.func11, Tryd.ntmps11
  go_wp2
  go_ret
  exact ⟨rfl, rfl⟩
theorem Join_err (W : World) (op : ByteArray) (c : Int) (t : TypeId) (v : Value) :
    Calls Tryd.prog 11 #[.string op, .int .i64 c, .iface t v] W fun e w' => e = .returned (err W.heap.size) ∧ w' = W.alloc (failure op c (.iface t v)) := by
  go_enter Tryd.func11, Tryd.ntmps11
  go_wp2
  go_ret
  exact ⟨rfl, rfl⟩
end Go.Proofs.YtogkhpceahdaeaaDoor.Fail
