/- What the functions of package retry answer: contracts of the calls. Conditions: those that each contract names. -/
import Derived.Test.YtckfmokbebmlbaaDoorFailHas
namespace Go.Proofs.YtckfmokbebmlbaaDoor.Fail
open Go.RowKit Go.Extern.Stop Go.Stop Go.Extern
set_option linter.unusedVariables false
set_option linter.unusedSimpArgs false

/-- Is it the last word? -/
def finalB (c : Int) : Bool := !(c == 15 || c == 14 || c == 19 || c == 16 || c == 20 || c == 18)

theorem final_any (W : World) (c : Int) : Calls Tryd.prog 7 #[.int .i64 c] W fun e w' => e = .returned (.bool (finalB c)) ∧ ∃ n, w' = W.drewN n := by
  go_enter Tryd.func7, Tryd.ntmps7
  go_wp2
  all_goals (go_ret; refine ⟨?_, 0, rfl⟩; unfold finalB; simp_all)

def sGET : ByteArray := ⟨#[71, 69, 84]⟩
def sHEAD : ByteArray := ⟨#[72, 69, 65, 68]⟩
def sPUT : ByteArray := ⟨#[80, 85, 84]⟩
def sDELETE : ByteArray := ⟨#[68, 69, 76, 69, 84, 69]⟩
def sOPTIONS : ByteArray := ⟨#[79, 80, 84, 73, 79, 78, 83]⟩
/-- May a request be sent twice? -/
def safeB (s : ByteArray) : Bool := s.toList == [71, 69, 84] || s.toList == [72, 69, 65, 68] || s.toList == [80, 85, 84] || s.toList == [68, 69, 76, 69, 84, 69] || s.toList == [79, 80, 84, 73, 79, 78, 83]

/-- At which place it stands among the methods that may be sent twice. -/
def idxB (s : ByteArray) : Int := if (s.toList == [71, 69, 84]) = true then 0 else if (s.toList == [72, 69, 65, 68]) = true then 1 else if (s.toList == [80, 85, 84]) = true then 2 else if (s.toList == [68, 69, 76, 69, 84, 69]) = true then 3 else if (s.toList == [79, 80, 84, 73, 79, 78, 83]) = true then 4 else -1
theorem idx_safe (s : ByteArray) : decide (idxB s ≥ 0) = safeB s := by
  unfold idxB safeB
  repeat' split
  all_goals simp_all
theorem index_any (w : World) (g : Nat) (s : ByteArray) (h0 : w.cell? ⟨g, 0, none⟩ = some (.string ⟨#[71, 69, 84]⟩)) (h1 : w.cell? ⟨g, 1, none⟩ = some (.string ⟨#[72, 69, 65, 68]⟩)) (h2 : w.cell? ⟨g, 2, none⟩ = some (.string ⟨#[80, 85, 84]⟩)) (h3 : w.cell? ⟨g, 3, none⟩ = some (.string ⟨#[68, 69, 76, 69, 84, 69]⟩)) (h4 : w.cell? ⟨g, 4, none⟩ = some (.string ⟨#[79, 80, 84, 73, 79, 78, 83]⟩)) :
    Calls Tryd.prog 28 #[.slice (some ⟨g, 0, none⟩) 5 5, .string s] w fun e w' => e = .returned (.int .i64 (idxB s)) ∧ w = w' := by
  by_cases b0 : (s.toList == [71, 69, 84]) = true
  · have hf : idxB s = 0 := by simp [idxB, b0]
    have hf := Lib.hid hf
    go_enter Tryd.func28, Tryd.ntmps28
    go_wp2
    refine wp_loop_rounds 6 ?_
    rw [rounds_succ]
    go_wp2
    go_ret
    exact ⟨by rw [hf.out]; rfl, rfl⟩
  replace b0 := Bool.eq_false_iff.mpr b0
  by_cases b1 : (s.toList == [72, 69, 65, 68]) = true
  · have hf : idxB s = 1 := by simp [idxB, b0, b1]
    have hf := Lib.hid hf
    go_enter Tryd.func28, Tryd.ntmps28
    go_wp2
    refine wp_loop_rounds 6 ?_
    rw [rounds_succ]
    go_wp2
    rw [rounds_succ]
    go_wp2
    go_ret
    exact ⟨by rw [hf.out]; rfl, rfl⟩
  replace b1 := Bool.eq_false_iff.mpr b1
  by_cases b2 : (s.toList == [80, 85, 84]) = true
  · have hf : idxB s = 2 := by simp [idxB, b0, b1, b2]
    have hf := Lib.hid hf
    go_enter Tryd.func28, Tryd.ntmps28
    go_wp2
    refine wp_loop_rounds 6 ?_
    rw [rounds_succ]
    go_wp2
    rw [rounds_succ]
    go_wp2
    rw [rounds_succ]
    go_wp2
    go_ret
    exact ⟨by rw [hf.out]; rfl, rfl⟩
  replace b2 := Bool.eq_false_iff.mpr b2
  by_cases b3 : (s.toList == [68, 69, 76, 69, 84, 69]) = true
  · have hf : idxB s = 3 := by simp [idxB, b0, b1, b2, b3]
    have hf := Lib.hid hf
    go_enter Tryd.func28, Tryd.ntmps28
    go_wp2
    refine wp_loop_rounds 6 ?_
    rw [rounds_succ]
    go_wp2
    rw [rounds_succ]
    go_wp2
    rw [rounds_succ]
    go_wp2
    rw [rounds_succ]
    go_wp2
    go_ret
    exact ⟨by rw [hf.out]; rfl, rfl⟩
  replace b3 := Bool.eq_false_iff.mpr b3
  by_cases b4 : (s.toList == [79, 80, 84, 73, 79, 78, 83]) = true
  · have hf : idxB s = 4 := by simp [idxB, b0, b1, b2, b3, b4]
    have hf := Lib.hid hf
    go_enter Tryd.func28, Tryd.ntmps28
    go_wp2
    refine wp_loop_rounds 6 ?_
    rw [rounds_succ]
    go_wp2
    rw [rounds_succ]
    go_wp2
    rw [rounds_succ]
    go_wp2
    rw [rounds_succ]
    go_wp2
    rw [rounds_succ]
    go_wp2
    go_ret
    exact ⟨by rw [hf.out]; rfl, rfl⟩
  replace b4 := Bool.eq_false_iff.mpr b4
  · have hf : idxB s = -1 := by simp [idxB, b0, b1, b2, b3, b4]
    have hf := Lib.hid hf
    go_enter Tryd.func28, Tryd.ntmps28
    go_wp2
    refine wp_loop_rounds 6 ?_
    rw [rounds_succ]
    go_wp2
    rw [rounds_succ]
    go_wp2
    rw [rounds_succ]
    go_wp2
    rw [rounds_succ]
    go_wp2
    rw [rounds_succ]
    go_wp2
    rw [rounds_succ]
    go_wp2
    go_ret
    exact ⟨by rw [hf.out]; rfl, rfl⟩

theorem contains_any (w : World) (g : Nat) (s : ByteArray) (h0 : w.cell? ⟨g, 0, none⟩ = some (.string ⟨#[71, 69, 84]⟩)) (h1 : w.cell? ⟨g, 1, none⟩ = some (.string ⟨#[72, 69, 65, 68]⟩)) (h2 : w.cell? ⟨g, 2, none⟩ = some (.string ⟨#[80, 85, 84]⟩)) (h3 : w.cell? ⟨g, 3, none⟩ = some (.string ⟨#[68, 69, 76, 69, 84, 69]⟩)) (h4 : w.cell? ⟨g, 4, none⟩ = some (.string ⟨#[79, 80, 84, 73, 79, 78, 83]⟩)) :
    Calls Tryd.prog 25 #[.slice (some ⟨g, 0, none⟩) 5 5, .string s] w fun e w' => e = .returned (.bool (safeB s)) ∧ w = w' := by
  have HI := index_any w g s h0 h1 h2 h3 h4
  have hfin := Lib.hid (idx_safe s)
  go_enter Tryd.func25, Tryd.ntmps25
  go_wp2_with ((go_at_call 28; refine HI.mono ?_; rintro e w' ⟨rfl, rfl⟩))
  go_ret
  exact ⟨by rw [← hfin.out]; rfl, rfl⟩

theorem cell_new (W : World) (cs : Array Value) (t : TypeId) (i : Nat) : (W.alloc (.cells cs t)).cell? ⟨W.heap.size, i, none⟩ = cs[i]? := by
  unfold World.cell?
  rw [heap_new]
  simp
theorem safe_any (W : World) (s : ByteArray) : Calls Tryd.prog 16 #[.string s] W fun e w' => e = .returned (.bool (safeB s)) ∧ Below W.heap.size W w' := by
  have HC := contains_any (W.alloc (.cells #[.string ⟨#[71, 69, 84]⟩, .string ⟨#[72, 69, 65, 68]⟩, .string ⟨#[80, 85, 84]⟩, .string ⟨#[68, 69, 76, 69, 84, 69]⟩, .string ⟨#[79, 80, 84, 73, 79, 78, 83]⟩] 9)) W.heap.size s ((cell_new W _ _ 0).trans rfl) ((cell_new W _ _ 1).trans rfl) ((cell_new W _ _ 2).trans rfl) ((cell_new W _ _ 3).trans rfl) ((cell_new W _ _ 4).trans rfl)
  go_enter Tryd.func16, Tryd.ntmps16
  go_wp2_with ((go_at_call 25; refine HC.mono ?_; rintro e w' ⟨rfl, rfl⟩))
  go_ret
  exact ⟨rfl, below_new W _⟩
end Go.Proofs.YtckfmokbebmlbaaDoor.Fail
