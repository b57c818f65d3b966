-- Written by a program of this session (the kit's printer, turned): the functions that the law reaches.
import Derived.Test.YtkakcalabpobpaaPPingPlaysx0
namespace Go.Proofs.Ytkakcalabpobpaa.PPingPlays
open Go.RowKit Go.Proofs.YtkakcalabpobpaaW.PrintWords Go.Proofs.YtkakcalabpobpaaW.PrintLast Go.Proofs.YtkakcalabpobpaaW.PrintMore
attribute [local go_sem] max2_int min2_int max_two min_two max_three min_three max_four min_four   -- for this text's walks alone
set_option linter.unusedVariables false
set_option linter.unusedSimpArgs false

/-- A state of type 42 at block g of W; what its slices lead to came in by w0. -/
def IsS42 (w0 W : World) (g : Nat) (f0 : Int) (f1 : Int) (f2 : Int) (f3 : Int) (f4 : Bool) (f5 : Bool) : Prop := W.heap[g]? = some (.cells #[.int .i64 f0, .int .i64 f1, .int .i64 f2, .int .i64 f3, .bool f4, .bool f5] 42 (0, 0)) ∧ w0.heap.size ≤ g
theorem IsS42.grown {w0 W : World} {g : Nat} {f0 : Int} {f1 : Int} {f2 : Int} {f3 : Int} {f4 : Bool} {f5 : Bool} {W1 : World} {row : Option Nat} (h : IsS42 w0 W g f0 f1 f2 f3 f4 f5) (hw : W.grownBy W1 row) (hne : some g ≠ row) : IsS42 w0 W1 g f0 f1 f2 f3 f4 f5 := by
  obtain ⟨hb, hg⟩ := h
  exact ⟨blk_grown hb hw hne, hg⟩
theorem IsS42.own_neN {w0 W : World} {g : Nat} {f0 : Int} {f1 : Int} {f2 : Int} {f3 : Int} {f4 : Bool} {f5 : Bool} {α : Type} {d : Kd α} {e : Nat} {base : Nat} {ok : Nat → Prop} {v : Value} {xs : List α} (h : IsS42 w0 W g f0 f1 f2 f3 f4 f5) (ho : Kd.N d e W base ok v xs) (ht : e ≠ 42) : some g ≠ v.ownBlock := by
  obtain ⟨hb, hg⟩ := h
  exact Kd.N_ne ho hb ht
theorem IsS42.fresh {w0 W : World} {g : Nat} {f0 : Int} {f1 : Int} {f2 : Int} {f3 : Int} {f4 : Bool} {f5 : Bool} (h : IsS42 w0 W g f0 f1 f2 f3 f4 f5) : ∀ k, W.heap.size ≤ k → k ≠ g := by
  obtain ⟨hb, hg⟩ := h
  exact Kd.freshB hb
theorem IsS42.kept {w0 W : World} {g : Nat} {f0 : Int} {f1 : Int} {f2 : Int} {f3 : Int} {f4 : Bool} {f5 : Bool} {W1 : World} {S : Nat → Prop} (h : IsS42 w0 W g f0 f1 f2 f3 f4 f5) (hk : Kept W W1 S) (hne : ¬ S g) : IsS42 w0 W1 g f0 f1 f2 f3 f4 f5 := by
  obtain ⟨hb, hg⟩ := h
  exact ⟨blk_kept hb hk hne, hg⟩
theorem IsS42.below {w0 W : World} {g : Nat} {f0 : Int} {f1 : Int} {f2 : Int} {f3 : Int} {f4 : Bool} {f5 : Bool} {W1 : World} (h : IsS42 w0 W g f0 f1 f2 f3 f4 f5) (hw : Below W.heap.size W W1) : IsS42 w0 W1 g f0 f1 f2 f3 f4 f5 := h.grown (grown_of_below hw none) (by simp)
theorem IsS42.alloc {w0 W : World} {g : Nat} {f0 : Int} {f1 : Int} {f2 : Int} {f3 : Int} {f4 : Bool} {f5 : Bool} (h : IsS42 w0 W g f0 f1 f2 f3 f4 f5) (o : Obj) : IsS42 w0 (W.alloc o) g f0 f1 f2 f3 f4 f5 := h.below (below_alloc (Below.refl _ _) o)
theorem IsS42.drewN {w0 W : World} {g : Nat} {f0 : Int} {f1 : Int} {f2 : Int} {f3 : Int} {f4 : Bool} {f5 : Bool} (h : IsS42 w0 W g f0 f1 f2 f3 f4 f5) (m : Nat) : IsS42 w0 (W.drewN m) g f0 f1 f2 f3 f4 f5 := h
theorem IsS42.drew {w0 W : World} {g : Nat} {f0 : Int} {f1 : Int} {f2 : Int} {f3 : Int} {f4 : Bool} {f5 : Bool} (h : IsS42 w0 W g f0 f1 f2 f3 f4 f5) : IsS42 w0 W.drew g f0 f1 f2 f3 f4 f5 := h
theorem IsS42.at_ {w0 W : World} {g : Nat} {f0 : Int} {f1 : Int} {f2 : Int} {f3 : Int} {f4 : Bool} {f5 : Bool} {w' : World} {m : Nat} (hq : W.drewN m = w') (h : IsS42 w0 W g f0 f1 f2 f3 f4 f5) : IsS42 w0 w' g f0 f1 f2 f3 f4 f5 := by subst hq; exact IsS42.drewN h m
theorem IsS42.apart {w0 W : World} {g : Nat} {f0 : Int} {f1 : Int} {f2 : Int} {f3 : Int} {f4 : Bool} {f5 : Bool} {α : Type} {d : Kd α} {e : Nat} {base : Nat} {ok : Nat → Prop} {v : Value} {xs : List α} (h : IsS42 w0 W g f0 f1 f2 f3 f4 f5) (ho : d.R e W base ok v xs) (ht : ∀ q, q ∈ e :: d.E → q ≠ 42) : d.R e W base (fun k => ok k ∧ k ≠ g) v xs := by
  obtain ⟨hb, hg⟩ := h
  exact Kd.R_types ho hb ht
theorem IsS42.own_ne {w0 W : World} {g : Nat} {f0 : Int} {f1 : Int} {f2 : Int} {f3 : Int} {f4 : Bool} {f5 : Bool} {α : Type} {d : Kd α} {e : Nat} {base : Nat} {ok : Nat → Prop} {v : Value} {xs : List α} (h : IsS42 w0 W g f0 f1 f2 f3 f4 f5) (ho : d.R e W base ok v xs) (ht : e ≠ 42) : some g ≠ v.ownBlock := by
  obtain ⟨hb, hg⟩ := h
  exact Kd.R_ne ho hb ht
theorem IsS42.apartQ {w0 W : World} {g : Nat} {f0 : Int} {f1 : Int} {f2 : Int} {f3 : Int} {f4 : Bool} {f5 : Bool} {α : Type} {d : Kd α} {e : Nat} {base : Nat} {ok : Nat → Prop} {v : Value} {xs : List α} (h : IsS42 w0 W g f0 f1 f2 f3 f4 f5) (ho : d.Q e W base ok v xs) (ht : ∀ q, q ∈ e :: d.E → q ≠ 42) : d.Q e W base (fun k => ok k ∧ k ≠ g) v xs := by
  obtain ⟨hb, hg⟩ := h
  exact Kd.Q_types ho hb ht
theorem IsS42.own_neQ {w0 W : World} {g : Nat} {f0 : Int} {f1 : Int} {f2 : Int} {f3 : Int} {f4 : Bool} {f5 : Bool} {α : Type} {d : Kd α} {e : Nat} {base : Nat} {ok : Nat → Prop} {v : Value} {xs : List α} (h : IsS42 w0 W g f0 f1 f2 f3 f4 f5) (ho : d.Q e W base ok v xs) (ht : e ≠ 42) : some g ≠ v.ownBlock := by
  obtain ⟨hb, hg⟩ := h
  exact Kd.Q_ne ho hb ht
theorem IsS42.apartS {w0 W : World} {g : Nat} {f0 : Int} {f1 : Int} {f2 : Int} {f3 : Int} {f4 : Bool} {f5 : Bool} {α : Type} {d : Kd α} {e : Nat} {base : Nat} {ok : Nat → Prop} {v : Value} {xs : List α} (h : IsS42 w0 W g f0 f1 f2 f3 f4 f5) (ho : d.S e W base ok v xs) (ht : ∀ q, q ∈ e :: d.E → q ≠ 42) : d.S e W base (fun k => ok k ∧ k ≠ g) v xs := by
  obtain ⟨hb, hg⟩ := h
  exact Kd.S_types ho hb ht
theorem IsS42.own_neS {w0 W : World} {g : Nat} {f0 : Int} {f1 : Int} {f2 : Int} {f3 : Int} {f4 : Bool} {f5 : Bool} {α : Type} {d : Kd α} {e : Nat} {base : Nat} {ok : Nat → Prop} {v : Value} {xs : List α} (h : IsS42 w0 W g f0 f1 f2 f3 f4 f5) (ho : d.S e W base ok v xs) (ht : e ≠ 42) : some g ≠ v.ownBlock := by
  obtain ⟨hb, hg⟩ := h
  exact Kd.S_ne ho hb ht
theorem IsS42.lt {w0 W : World} {g : Nat} {f0 : Int} {f1 : Int} {f2 : Int} {f3 : Int} {f4 : Bool} {f5 : Bool} (h : IsS42 w0 W g f0 f1 f2 f3 f4 f5) : g < W.heap.size := by
  obtain ⟨hb, hg⟩ := h
  exact blk_lt hb
theorem IsS42.ge {w0 W : World} {g : Nat} {f0 : Int} {f1 : Int} {f2 : Int} {f3 : Int} {f4 : Bool} {f5 : Bool} (h : IsS42 w0 W g f0 f1 f2 f3 f4 f5) : w0.heap.size ≤ g := by
  obtain ⟨hb, hg⟩ := h
  exact hg
theorem IsS42.ne_blk {w0 W : World} {g : Nat} {f0 : Int} {f1 : Int} {f2 : Int} {f3 : Int} {f4 : Bool} {f5 : Bool} {a : Nat} {cs : Array Value} {t : TypeId} {fr : Nat × Nat} (h : IsS42 w0 W g f0 f1 f2 f3 f4 f5) (hb2 : W.heap[a]? = some (.cells cs t fr)) (ht : t ≠ 42) : g ≠ a := by
  obtain ⟨hb, hg⟩ := h
  rintro rfl
  rw [hb] at hb2
  injection hb2 with hb2
  injection hb2 with _ ht2
  exact ht ht2.symm
theorem IsS42.far {w0 W : World} {g : Nat} {f0 : Int} {f1 : Int} {f2 : Int} {f3 : Int} {f4 : Bool} {f5 : Bool} {p : Addr} (h : IsS42 w0 W g f0 f1 f2 f3 f4 f5) (hne : g ≠ p.block) (u : Value) : IsS42 w0 (W.setCell p u) g f0 f1 f2 f3 f4 f5 := by
  obtain ⟨hb, hg⟩ := h
  exact ⟨blk_far hb hne u, hg⟩
theorem cellS42_0 {W : World} {g : Nat} {f0 : Int} {f1 : Int} {f2 : Int} {f3 : Int} {f4 : Bool} {f5 : Bool} (h : W.heap[g]? = some (.cells #[.int .i64 f0, .int .i64 f1, .int .i64 f2, .int .i64 f3, .bool f4, .bool f5] 42 (0, 0))) : W.cell? ⟨g, 0, none⟩ = some (.int .i64 f0) := (blk_cell h 0).trans rfl
theorem IsS42.set_0 {w0 W : World} {g : Nat} {f0 : Int} {f1 : Int} {f2 : Int} {f3 : Int} {f4 : Bool} {f5 : Bool} (h : IsS42 w0 W g f0 f1 f2 f3 f4 f5) (x : Int) : IsS42 w0 (W.setCell ⟨g, 0, none⟩ (.int .i64 x)) g x f1 f2 f3 f4 f5 := by
  obtain ⟨hb, hg⟩ := h
  exact ⟨by simpa using blk_set hb 0 (.int .i64 x), hg⟩
theorem cellS42_1 {W : World} {g : Nat} {f0 : Int} {f1 : Int} {f2 : Int} {f3 : Int} {f4 : Bool} {f5 : Bool} (h : W.heap[g]? = some (.cells #[.int .i64 f0, .int .i64 f1, .int .i64 f2, .int .i64 f3, .bool f4, .bool f5] 42 (0, 0))) : W.cell? ⟨g, 1, none⟩ = some (.int .i64 f1) := (blk_cell h 1).trans rfl
theorem IsS42.set_1 {w0 W : World} {g : Nat} {f0 : Int} {f1 : Int} {f2 : Int} {f3 : Int} {f4 : Bool} {f5 : Bool} (h : IsS42 w0 W g f0 f1 f2 f3 f4 f5) (x : Int) : IsS42 w0 (W.setCell ⟨g, 1, none⟩ (.int .i64 x)) g f0 x f2 f3 f4 f5 := by
  obtain ⟨hb, hg⟩ := h
  exact ⟨by simpa using blk_set hb 1 (.int .i64 x), hg⟩
theorem cellS42_2 {W : World} {g : Nat} {f0 : Int} {f1 : Int} {f2 : Int} {f3 : Int} {f4 : Bool} {f5 : Bool} (h : W.heap[g]? = some (.cells #[.int .i64 f0, .int .i64 f1, .int .i64 f2, .int .i64 f3, .bool f4, .bool f5] 42 (0, 0))) : W.cell? ⟨g, 2, none⟩ = some (.int .i64 f2) := (blk_cell h 2).trans rfl
theorem IsS42.set_2 {w0 W : World} {g : Nat} {f0 : Int} {f1 : Int} {f2 : Int} {f3 : Int} {f4 : Bool} {f5 : Bool} (h : IsS42 w0 W g f0 f1 f2 f3 f4 f5) (x : Int) : IsS42 w0 (W.setCell ⟨g, 2, none⟩ (.int .i64 x)) g f0 f1 x f3 f4 f5 := by
  obtain ⟨hb, hg⟩ := h
  exact ⟨by simpa using blk_set hb 2 (.int .i64 x), hg⟩
theorem cellS42_3 {W : World} {g : Nat} {f0 : Int} {f1 : Int} {f2 : Int} {f3 : Int} {f4 : Bool} {f5 : Bool} (h : W.heap[g]? = some (.cells #[.int .i64 f0, .int .i64 f1, .int .i64 f2, .int .i64 f3, .bool f4, .bool f5] 42 (0, 0))) : W.cell? ⟨g, 3, none⟩ = some (.int .i64 f3) := (blk_cell h 3).trans rfl
theorem IsS42.set_3 {w0 W : World} {g : Nat} {f0 : Int} {f1 : Int} {f2 : Int} {f3 : Int} {f4 : Bool} {f5 : Bool} (h : IsS42 w0 W g f0 f1 f2 f3 f4 f5) (x : Int) : IsS42 w0 (W.setCell ⟨g, 3, none⟩ (.int .i64 x)) g f0 f1 f2 x f4 f5 := by
  obtain ⟨hb, hg⟩ := h
  exact ⟨by simpa using blk_set hb 3 (.int .i64 x), hg⟩
theorem cellS42_4 {W : World} {g : Nat} {f0 : Int} {f1 : Int} {f2 : Int} {f3 : Int} {f4 : Bool} {f5 : Bool} (h : W.heap[g]? = some (.cells #[.int .i64 f0, .int .i64 f1, .int .i64 f2, .int .i64 f3, .bool f4, .bool f5] 42 (0, 0))) : W.cell? ⟨g, 4, none⟩ = some (.bool f4) := (blk_cell h 4).trans rfl
theorem IsS42.set_4 {w0 W : World} {g : Nat} {f0 : Int} {f1 : Int} {f2 : Int} {f3 : Int} {f4 : Bool} {f5 : Bool} (h : IsS42 w0 W g f0 f1 f2 f3 f4 f5) (x : Bool) : IsS42 w0 (W.setCell ⟨g, 4, none⟩ (.bool x)) g f0 f1 f2 f3 x f5 := by
  obtain ⟨hb, hg⟩ := h
  exact ⟨by simpa using blk_set hb 4 (.bool x), hg⟩
theorem cellS42_5 {W : World} {g : Nat} {f0 : Int} {f1 : Int} {f2 : Int} {f3 : Int} {f4 : Bool} {f5 : Bool} (h : W.heap[g]? = some (.cells #[.int .i64 f0, .int .i64 f1, .int .i64 f2, .int .i64 f3, .bool f4, .bool f5] 42 (0, 0))) : W.cell? ⟨g, 5, none⟩ = some (.bool f5) := (blk_cell h 5).trans rfl
theorem IsS42.set_5 {w0 W : World} {g : Nat} {f0 : Int} {f1 : Int} {f2 : Int} {f3 : Int} {f4 : Bool} {f5 : Bool} (h : IsS42 w0 W g f0 f1 f2 f3 f4 f5) (x : Bool) : IsS42 w0 (W.setCell ⟨g, 5, none⟩ (.bool x)) g f0 f1 f2 f3 f4 x := by
  obtain ⟨hb, hg⟩ := h
  exact ⟨by simpa using blk_set hb 5 (.bool x), hg⟩
theorem IsS42.new (w0 W : World) (f0 : Int) (f1 : Int) (f2 : Int) (f3 : Int) (f4 : Bool) (f5 : Bool) (hB : Below w0.heap.size w0 W) : IsS42 w0 (W.alloc (.cells #[.int .i64 f0, .int .i64 f1, .int .i64 f2, .int .i64 f3, .bool f4, .bool f5] 42)) W.heap.size f0 f1 f2 f3 f4 f5 := ⟨by simpa using heap_alloc_new W _, hB.size⟩

/-! ### ping_New: function 9 -/
def ping_New.f (a0 : Int) (a1 : Int) : Option (Int × Int × Int × Int × Bool × Bool) := if a0 < 1 then (none) else (if a1 < 1 then (none) else (some (a0, a1, 0, 0, false, false)))
set_option maxHeartbeats 8000000 in
set_option maxRecDepth 100000 in
theorem ping_New.calls (a0 : Int) (a1 : Int) (r1 : Int) (r2 : Int) (r3 : Int) (r4 : Int) (r5 : Bool) (r6 : Bool) (w0 w : World) (hB : Below w0.heap.size w0 w) (h : ping_New.f a0 a1 = some (r1, r2, r3, r4, r5, r6)) :
    Calls Try.prog 9 #[.int .i64 a0, .int .i64 a1] w fun e w' => ∃ g_ : Nat, e = .returned (.pointer (some ⟨g_, 0, none⟩)) ∧ IsS42 w0 w' g_ r1 r2 r3 r4 r5 r6 ∧ Below w0.heap.size w0 w' ∧ Below w.heap.size w w' := by
  have hu42 := Try.underlying42
  have HBW := Aside0.mk (Below.refl w.heap.size w)
  have HW0 := Aside0.mk hB.size
  have HB := Aside0.mk hB
  clear hB
  have H : (if a0 < 1 then (none) else (if a1 < 1 then (none) else (some (a0, a1, 0, 0, false, false)))) = some (r1, r2, r3, r4, r5, r6) := h
  clear h
  by_cases c3 : a0 < 1
  · rw [if_pos c3] at H
    exact absurd H (by simp)
  · rw [if_neg c3] at H
    have c3b0 : decide (a0 < 1) = false := decide_eq_false c3
    clear c3
    by_cases c4 : a1 < 1
    · rw [if_pos c4] at H
      exact absurd H (by simp)
    · rw [if_neg c4] at H
      have c4b0 : decide (a1 < 1) = false := decide_eq_false c4
      clear c4
      simp only [Option.some.injEq, Prod.mk.injEq] at H
      obtain ⟨rfl, rfl, rfl, rfl, rfl, rfl⟩ := H
      go_enter Try.func9, Try.ntmps9
      go_wp2_with (first | ((with_reducible refine gate_dst (N := 14) rfl ?_); refine box_event ?hg (N := 14) ?hd (cs := #[.int .i64 a0, .int .i64 a1, .int .i64 0, .int .i64 0, .bool false, .bool false]) (t := 42) ?hr ?_; (case hd => rfl); (case hg => rfl); (case hr => first | (go_simp; done) | (go_simp; rfl)); intro gb101 hg w5 hbox hb; have n0_ := Aside0.mk (below_step HBW.out hb); have n1_ := Aside0.mk (below_step (by repeat (first | (with_reducible first | exact HB.out | apply below_alloc | apply pw_below_drewN | apply below_drew1) | exact HB.out)) hb); have n2_ := Aside0.mk (hbox); have n3_ := Aside0.mk ((by rw [hg]; exact (below_size (by repeat (first | (with_reducible first | exact HBW.out | apply below_alloc | apply pw_below_drewN | apply below_drew1) | exact HBW.out))) : w.heap.size ≤ gb101)); have n4_ := Aside0.mk ((Nat.le_trans HW0.out (by rw [hg]; exact (below_size (by repeat (first | (with_reducible first | exact HBW.out | apply below_alloc | apply pw_below_drewN | apply below_drew1) | exact HBW.out))) : w.heap.size ≤ gb101) : w0.heap.size ≤ gb101)); clear HBW; clear HB; have HBW := n0_; have HB := n1_; have BK101 := n2_; have GW101 := n3_; have GE101 := n4_; clear n0_ n1_ n2_ n3_ n4_; clear hb hbox hg))
      go_ret
      exact ⟨_, rfl, (show IsS42 w0 _ gb101 a0 a1 0 0 false false from ⟨by (with_reducible repeat (first | refine blk_drewN ?_ _ | refine blk_drew ?_ | refine blk_alloc ?_ _)); exact BK101.out, GE101.out⟩), by repeat (first | (with_reducible first | exact HB.out | apply below_alloc | apply pw_below_drewN | apply below_drew1 | refine below_set ?_ GE101.out) | exact HB.out), by repeat (first | (with_reducible first | exact HBW.out | apply below_alloc | apply pw_below_drewN | apply below_drew1 | refine below_set ?_ GW101.out) | exact HBW.out)⟩

/-! ### ping_Health_body: function 17 -/
def ping_Health_body.l0 : Nat → List Int → Int → Int → Int → Int → Int → Bool → Bool → Option (ByteArray × Int × Int × Int × Int × Bool × Bool)
  | 0, _, _, _, _, _, _, _, _ => none
  | k + 1, x3, x4, x1000, x1001, x1002, x1003, x1004, x1005 => if x4 ≥ 0 then (if 0 ≤ (wrap64 (8 * x4)) then (if x3.length < 140737488355328 then (ping_Health_body.l0 k (x3 ++ [(shr .i64 x1003 (wrap64 (8 * x4))) % 256]) (wrap64 (x4 - 1)) x1000 x1001 x1002 x1003 x1004 x1005) else (none)) else (none)) else (some (strOfNums x3, x1000, x1001, x1002, x1003, x1004, x1005))
def ping_Health_body.f (k : Nat) (s0_0 : Int) (s0_1 : Int) (s0_2 : Int) (s0_3 : Int) (s0_4 : Bool) (s0_5 : Bool) : Option (ByteArray × Int × Int × Int × Int × Bool × Bool) := ping_Health_body.l0 k ([] : List Int) 7 s0_0 s0_1 s0_2 s0_3 s0_4 s0_5
theorem ping_Health_body.mono_l : ∀ k, (∀ y0 y1 y2 y3 y4 y5 y6 y7, LeO (ping_Health_body.l0 k y0 y1 y2 y3 y4 y5 y6 y7) (ping_Health_body.l0 (k + 1) y0 y1 y2 y3 y4 y5 y6 y7))
  | 0 => fun _ _ _ _ _ _ _ _ r h => by simp [ping_Health_body.l0] at h
  | k + 1 => by
    have ih0 := ping_Health_body.mono_l k
    · intro y0 y1 y2 y3 y4 y5 y6 y7
      unfold ping_Health_body.l0
      repeat' first
      | (with_reducible exact ih0 _ _ _ _ _ _ _ _)
      | (with_reducible exact LeO.refl _)
      | (with_reducible exact LeO.none _)
      | (with_reducible refine LeO.ite ?_ ?_)
      | (with_reducible refine LeO.bind ?_ (fun _ => ?_))
      | exact ih0 _ _ _ _ _ _ _ _
      | exact LeO.none _
      | refine LeO.ite ?_ ?_
      | refine LeO.bind ?_ (fun _ => ?_)
theorem ping_Health_body.mono : ∀ a0 a1 a2 a3 a4 a5 k, LeO (ping_Health_body.f k a0 a1 a2 a3 a4 a5) (ping_Health_body.f (k + 1) a0 a1 a2 a3 a4 a5) := by
  intro a0 a1 a2 a3 a4 a5 k
  have ih0 := ping_Health_body.mono_l k
  unfold ping_Health_body.f
  repeat' first
      | (with_reducible exact ih0 _ _ _ _ _ _ _ _)
      | (with_reducible exact LeO.refl _)
      | (with_reducible exact LeO.none _)
      | (with_reducible refine LeO.ite ?_ ?_)
      | (with_reducible refine LeO.bind ?_ (fun _ => ?_))
      | exact ih0 _ _ _ _ _ _ _ _
      | exact LeO.none _
      | refine LeO.ite ?_ ?_
      | refine LeO.bind ?_ (fun _ => ?_)
set_option maxHeartbeats 8000000 in
set_option maxRecDepth 100000 in
theorem ping_Health_body.calls (k : Nat) (g : Nat) (s0_0 : Int) (s0_1 : Int) (s0_2 : Int) (s0_3 : Int) (s0_4 : Bool) (s0_5 : Bool) (r1 : ByteArray) (r2 : Int) (r3 : Int) (r4 : Int) (r5 : Int) (r6 : Bool) (r7 : Bool) (w0 w : World) (hI : IsS42 w0 w g s0_0 s0_1 s0_2 s0_3 s0_4 s0_5) (hB : Below w0.heap.size w0 w) (h : ping_Health_body.f k s0_0 s0_1 s0_2 s0_3 s0_4 s0_5 = some (r1, r2, r3, r4, r5, r6, r7)) :
    Calls Try.prog 17 #[.pointer (some ⟨g, 0, none⟩)] w fun e w' => e = .returned (.string r1) ∧ IsS42 w0 w' g r2 r3 r4 r5 r6 r7 ∧ Below w0.heap.size w0 w' ∧ KeepBut w w' g none := by
  have HI0 := Aside0.mk hI
  have HK := Aside0.mk (KeepBut.refl w g none)
  have HL := Aside0.mk hB.size
  clear hI
  have HW0 := Aside0.mk hB.size
  have HB := Aside0.mk hB
  clear hB
  have H : (ping_Health_body.l0 k ([] : List Int) 7 s0_0 s0_1 s0_2 s0_3 s0_4 s0_5) = some (r1, r2, r3, r4, r5, r6, r7) := h
  clear h
  have H' := Aside0.mk H
  clear H
  go_enter Try.func17, Try.ntmps17
  go_wp2
  go_loopg [3, 4] k (fun kq v3 v4 w' => ∃ (x3_1 : List Int) (x4_1 : Int), v4 = .int .i64 x4_1 ∧ Aside0 (ping_Health_body.l0 kq x3_1 x4_1 s0_0 s0_1 s0_2 s0_3 s0_4 s0_5 = some (r1, r2, r3, r4, r5, r6, r7)) ∧ Aside0 (kq ≤ k) ∧ Aside0 (Kd.R (Kd.int .u8) 5 w' w.heap.size (fun _ => True) v3 x3_1) ∧ Aside0 (IsS42 w0 w' g s0_0 s0_1 s0_2 s0_3 s0_4 s0_5) ∧ Aside0 (KeepBut w w' g none) ∧ Aside0 (Below w0.heap.size w0 w'))
  case atStart => exact ⟨(([] : List Int)), (7), (by first | rfl | (simp; done) | (simp [*]; done)), H', ⟨Nat.le_refl _⟩, ⟨by first | exact Kd.R_nil _ _ _ _ _ | exact Kd.N_nil _ _ _ _ _ | exact Kd.V_nil _ _ _ _ _ | exact Kd.Q_nil _ _ _ _ _ | exact Kd.S_nil _ _ _ _ _⟩, ⟨by repeat (first | (with_reducible first | exact HI0.out | apply IsS42.alloc | apply IsS42.drewN | apply IsS42.drew | apply IsS42.set_0 | apply IsS42.set_1 | apply IsS42.set_2 | apply IsS42.set_3 | apply IsS42.set_4 | apply IsS42.set_5) | exact HI0.out)⟩, ⟨by repeat (first | (with_reducible first | exact HK.out | apply KeepBut.set_ | apply keep_drewN | apply keep_drew | apply keep_alloc) | exact HK.out)⟩, ⟨by repeat (first | (with_reducible first | exact HB.out | apply below_alloc | apply pw_below_drewN | apply below_drew1 | refine below_set ?_ (IsS42.ge HI0.out)) | exact HB.out)⟩⟩
  case round =>
    clear H'
    try clear c1
    obtain ⟨x3_1, x4_1, rfl, HA, HK1, HO_3, HI0, HK, HB⟩ := hrel
    cases gk with
    | zero => exact absurd HA.out (by simp [ping_Health_body.l0])
    | succ k1 =>
      have H := HA.out
      clear HA
      simp only [ping_Health_body.l0] at H
      by_cases c2 : x4_1 ≥ 0
      · rw [if_pos c2] at H
        have c2b0 : decide (0 ≤ x4_1) = true := decide_eq_true c2
        clear c2
        obtain ⟨ji3, hji3⟩ : ∃ j_ : Int, (wrap64 (8 * x4_1)) = j_ := ⟨_, rfl⟩
        replace H : (if 0 ≤ (ji3) then (if x3_1.length < 140737488355328 then (ping_Health_body.l0 k1 (x3_1 ++ [(shr .i64 s0_3 (ji3)) % 256]) (wrap64 (x4_1 - 1)) s0_0 s0_1 s0_2 s0_3 s0_4 s0_5) else (none)) else (none)) = some (r1, r2, r3, r4, r5, r6, r7) := by first | (rw [hji3] at H; exact H) | (simp only [hji3] at H ⊢; exact H)
        have hji3w : (IntKind.i64.wrap (8 * x4_1)) = ji3 := (i64_w _).trans hji3
        by_cases c4 : 0 ≤ (ji3)
        · rw [if_pos c4] at H
          have c4b0 := eq_true c4
          have c4b1 : decide (0 ≤ (ji3)) = true := decide_eq_true c4
          clear c4
          obtain ⟨ji5, hji5⟩ : ∃ j_ : Int, (shr .i64 s0_3 (ji3)) = j_ := ⟨_, rfl⟩
          replace H : (if x3_1.length < 140737488355328 then (ping_Health_body.l0 k1 (x3_1 ++ [(ji5) % 256]) (wrap64 (x4_1 - 1)) s0_0 s0_1 s0_2 s0_3 s0_4 s0_5) else (none)) = some (r1, r2, r3, r4, r5, r6, r7) := by first | (rw [hji5] at H; exact H) | (simp only [hji5] at H ⊢; exact H)
          have hji5_ : (s0_3 / 2 ^ min (ji3).toNat 64) = ji5 := hji5
          have hji5z : (ji3) ≤ 64 → (s0_3 / 2 ^ (ji3).toNat) = ji5 := shr_small hji5
          by_cases c6 : x3_1.length < 140737488355328
          · rw [if_pos c6] at H
            have LMc6 := Aside0.mk c6
            clear c6
            obtain ⟨y102, hy102⟩ : ∃ y_ : List Int, y_ = (x3_1 ++ [(ji5) % 256]) := ⟨_, rfl⟩
            replace H : (ping_Health_body.l0 k1 y102 (wrap64 (x4_1 - 1)) s0_0 s0_1 s0_2 s0_3 s0_4 s0_5) = some (r1, r2, r3, r4, r5, r6, r7) := by first | (rw [hy102]; with_reducible exact H) | (have H2_ := (Option.bind_some _ _).symm.trans H; rw [hy102]; with_reducible exact H2_) | (have H2_ := (Option.bind_some _ _).symm.trans H; with_reducible exact H2_) | with_reducible exact H | (rw [hy102]; exact H) | exact H
            have Ny102 := Aside0.mk hy102
            clear hy102
            have H' := Aside0.mk H
            clear H
            obtain ⟨HGz7, hgz7⟩ := HI0.out
            have hcz7_0 := cellS42_0 HGz7
            have hcz7_1 := cellS42_1 HGz7
            have hcz7_2 := cellS42_2 HGz7
            have hcz7_3 := cellS42_3 HGz7
            have hcz7_4 := cellS42_4 HGz7
            have hcz7_5 := cellS42_5 HGz7
            have hfz7_0 := blk_frozen HGz7 0
            have hfz7_1 := blk_frozen HGz7 1
            have hfz7_2 := blk_frozen HGz7 2
            have hfz7_3 := blk_frozen HGz7 3
            have hfz7_4 := blk_frozen HGz7 4
            have hfz7_5 := blk_frozen HGz7 5
            clear HGz7 hgz7
            go_wp2_with (first | ((with_reducible refine gate_builtin (b := .append) (xs := #[.tmp 9, .tmp 18]) rfl ?_); at_builtin; refine Kd.R_append (Kd.int .u8) w.heap.size rfl (.tmp 9) (.tmp 18) 44 5 (.int .u8 0) 1 rfl Try.underlying44 info5 rfl (by decide) (by omega) u3 x3_1 ((ji5) % 256) [.int .u8 ((ji5) % 256)] (fun _ => True) (fun _ => False) rfl rfl ?aP (fun _ hk => hk.elim) ?aF ?aO (Below.refl _ _) ?aS ?aL ?_; (case aP => exact rfl); (case aF => exact (fun _ _ => trivial)); (case aO => exact (by (with_reducible repeat (first | apply Kd.R_alloc | apply Kd.R_drewN | apply Kd.R_drew)); exact HO_3.out)); (case aS => exact (keep_size (w := w) (g := g) (row := none) (by repeat (first | (with_reducible first | exact HK.out | apply KeepBut.set_ | apply keep_drewN | apply keep_drew | apply keep_alloc) | exact HK.out)))); (case aL => have := LMc6.out; omega); intro v103 w8 ho hb hg hat; rw [← Ny102.out] at ho; have n0_ := Aside0.mk (IsS42.grown (by repeat (first | (with_reducible first | exact HI0.out | apply IsS42.alloc | apply IsS42.drewN | apply IsS42.drew | apply IsS42.set_0 | apply IsS42.set_1 | apply IsS42.set_2 | apply IsS42.set_3 | apply IsS42.set_4 | apply IsS42.set_5) | exact HI0.out)) hg (IsS42.own_ne HI0.out HO_3.out (by decide))); have n1_ := Aside0.mk (below_weaken (by repeat (first | (with_reducible first | exact HB.out | apply below_alloc | apply pw_below_drewN | apply below_drew1 | refine below_set ?_ (IsS42.ge HI0.out)) | exact HB.out)) HL.out hb); have n2_ := Aside0.mk (KeepBut.trans (by repeat (first | (with_reducible first | exact HK.out | apply KeepBut.set_ | apply keep_drewN | apply keep_drew | apply keep_alloc) | exact HK.out)) (KeepBut.of_grown hg g) (Kd.R_base2 HO_3.out)); have n3_ := Aside0.mk (ho); clear HI0; clear HB; clear HK; clear HO_3; have HI0 := n0_; have HB := n1_; have HK := n2_; have HO104 := n3_; clear n0_ n1_ n2_ n3_; clear ho hb hg hat))
            go_roundg k1
            case measure => have := HK1.out; omega
            case rel => exact ⟨(y102), (wrap64 (x4_1 - 1)), (by first | rfl | (simp; done) | (simp [*]; done)), H', ⟨by have := HK1.out; omega⟩, ⟨by (with_reducible repeat (first | apply Kd.R_alloc | apply Kd.R_drewN | apply Kd.R_drew)); exact HO104.out⟩, ⟨by repeat (first | (with_reducible first | exact HI0.out | apply IsS42.alloc | apply IsS42.drewN | apply IsS42.drew | apply IsS42.set_0 | apply IsS42.set_1 | apply IsS42.set_2 | apply IsS42.set_3 | apply IsS42.set_4 | apply IsS42.set_5) | exact HI0.out)⟩, ⟨by repeat (first | (with_reducible first | exact HK.out | apply KeepBut.set_ | apply keep_drewN | apply keep_drew | apply keep_alloc) | exact HK.out)⟩, ⟨by repeat (first | (with_reducible first | exact HB.out | apply below_alloc | apply pw_below_drewN | apply below_drew1 | refine below_set ?_ (IsS42.ge HI0.out)) | exact HB.out)⟩⟩
          · rw [if_neg c6] at H
            exact absurd H (by simp)
        · rw [if_neg c4] at H
          exact absurd H (by simp)
      · rw [if_neg c2] at H
        have c2b0 : decide (0 ≤ x4_1) = false := decide_eq_false c2
        clear c2
        simp only [Option.some.injEq, Prod.mk.injEq] at H
        obtain ⟨rfl, rfl, rfl, rfl, rfl, rfl, rfl⟩ := H
        have hcv9 := own_string (P := Try.prog) Try.underlying44 Try.underlying5 Try.underlying9 (Kd.own_of_R HO_3.out)
        go_wp2
        go_ret
        exact ⟨by first | rfl | (simp [errW_none, errW_some] <;> rfl) | (simp [*, errW_none, errW_some] <;> rfl), by repeat (first | (with_reducible first | exact HI0.out | apply IsS42.alloc | apply IsS42.drewN | apply IsS42.drew | apply IsS42.set_0 | apply IsS42.set_1 | apply IsS42.set_2 | apply IsS42.set_3 | apply IsS42.set_4 | apply IsS42.set_5) | exact HI0.out), by repeat (first | (with_reducible first | exact HB.out | apply below_alloc | apply pw_below_drewN | apply below_drew1 | refine below_set ?_ (IsS42.ge HI0.out)) | exact HB.out), by repeat (first | (with_reducible first | exact HK.out | apply KeepBut.set_ | apply keep_drewN | apply keep_drew | apply keep_alloc) | exact HK.out)⟩

/-! ### ping_Health_Tick: function 10 -/
def ping_Health_Tick.j0 : Nat → Bool → Int → Int → Int → Int → Bool → Bool → Option (ByteArray × Bool × Int × Int × Int × Int × Bool × Bool)
  | 0, _, _, _, _, _, _, _ => none
  | k + 1, x13, x1000, x1001, x1002, x1003, x1004, x1005 => if x13 = true then (some ((⟨#[]⟩ : ByteArray), true, x1000, x1001, x1002, x1003, x1004, true)) else (if x1004 = true then (some ((⟨#[]⟩ : ByteArray), false, x1000, x1001, x1002, x1003, x1004, x1005)) else (if x1002 < x1000 then (some ((⟨#[]⟩ : ByteArray), false, x1000, x1001, x1002, x1003, x1004, x1005)) else ((ping_Health_body.f k x1000 x1001 0 (wrap64 (x1003 + 1)) true x1005).bind fun bt105 => (some (bt105.1, false, bt105.2.1, bt105.2.2.1, bt105.2.2.2.1, bt105.2.2.2.2.1, bt105.2.2.2.2.2.1, bt105.2.2.2.2.2.2)))))
def ping_Health_Tick.f (k : Nat) (s0_0 : Int) (s0_1 : Int) (s0_2 : Int) (s0_3 : Int) (s0_4 : Bool) (s0_5 : Bool) : Option (ByteArray × Bool × Int × Int × Int × Int × Bool × Bool) := if s0_5 = true then (ping_Health_Tick.j0 k true s0_0 s0_1 (wrap64 (s0_2 + 1)) s0_3 s0_4 s0_5) else (if s0_4 = true then (ping_Health_Tick.j0 k (decide ((wrap64 (s0_2 + 1)) ≥ s0_1)) s0_0 s0_1 (wrap64 (s0_2 + 1)) s0_3 s0_4 s0_5) else (ping_Health_Tick.j0 k false s0_0 s0_1 (wrap64 (s0_2 + 1)) s0_3 s0_4 s0_5))
theorem ping_Health_Tick.mono_l : ∀ k, (∀ y0 y1 y2 y3 y4 y5 y6, LeO (ping_Health_Tick.j0 k y0 y1 y2 y3 y4 y5 y6) (ping_Health_Tick.j0 (k + 1) y0 y1 y2 y3 y4 y5 y6))
  | 0 => fun _ _ _ _ _ _ _ r h => by simp [ping_Health_Tick.j0] at h
  | k + 1 => by
    have ih0 := ping_Health_Tick.mono_l k
    · intro y0 y1 y2 y3 y4 y5 y6
      unfold ping_Health_Tick.j0
      repeat' first
      | (with_reducible exact ih0 _ _ _ _ _ _ _)
      | (with_reducible exact ping_Health_body.mono _ _ _ _ _ _ _)
      | (with_reducible exact LeO.refl _)
      | (with_reducible exact LeO.none _)
      | (with_reducible refine LeO.ite ?_ ?_)
      | (with_reducible refine LeO.bind ?_ (fun _ => ?_))
      | exact ih0 _ _ _ _ _ _ _
      | exact ping_Health_body.mono _ _ _ _ _ _ _
      | exact LeO.none _
      | refine LeO.ite ?_ ?_
      | refine LeO.bind ?_ (fun _ => ?_)
theorem ping_Health_Tick.mono : ∀ a0 a1 a2 a3 a4 a5 k, LeO (ping_Health_Tick.f k a0 a1 a2 a3 a4 a5) (ping_Health_Tick.f (k + 1) a0 a1 a2 a3 a4 a5) := by
  intro a0 a1 a2 a3 a4 a5 k
  have ih0 := ping_Health_Tick.mono_l k
  unfold ping_Health_Tick.f
  repeat' first
      | (with_reducible exact ih0 _ _ _ _ _ _ _)
      | (with_reducible exact ping_Health_body.mono _ _ _ _ _ _ _)
      | (with_reducible exact LeO.refl _)
      | (with_reducible exact LeO.none _)
      | (with_reducible refine LeO.ite ?_ ?_)
      | (with_reducible refine LeO.bind ?_ (fun _ => ?_))
      | exact ih0 _ _ _ _ _ _ _
      | exact ping_Health_body.mono _ _ _ _ _ _ _
      | exact LeO.none _
      | refine LeO.ite ?_ ?_
      | refine LeO.bind ?_ (fun _ => ?_)
set_option maxHeartbeats 8000000 in
set_option maxRecDepth 100000 in
theorem ping_Health_Tick.calls (k : Nat) (g : Nat) (s0_0 : Int) (s0_1 : Int) (s0_2 : Int) (s0_3 : Int) (s0_4 : Bool) (s0_5 : Bool) (r1 : ByteArray) (r2 : Bool) (r3 : Int) (r4 : Int) (r5 : Int) (r6 : Int) (r7 : Bool) (r8 : Bool) (w0 w : World) (hI : IsS42 w0 w g s0_0 s0_1 s0_2 s0_3 s0_4 s0_5) (hB : Below w0.heap.size w0 w) (h : ping_Health_Tick.f k s0_0 s0_1 s0_2 s0_3 s0_4 s0_5 = some (r1, r2, r3, r4, r5, r6, r7, r8)) :
    Calls Try.prog 10 #[.pointer (some ⟨g, 0, none⟩)] w fun e w' => e = .returned (.tuple #[.string r1, .bool r2]) ∧ IsS42 w0 w' g r3 r4 r5 r6 r7 r8 ∧ Below w0.heap.size w0 w' ∧ KeepBut w w' g none := by
  have HI0 := Aside0.mk hI
  have HK := Aside0.mk (KeepBut.refl w g none)
  have HL := Aside0.mk hB.size
  clear hI
  have HW0 := Aside0.mk hB.size
  have HB := Aside0.mk hB
  clear hB
  have H : (if s0_5 = true then (ping_Health_Tick.j0 k true s0_0 s0_1 (wrap64 (s0_2 + 1)) s0_3 s0_4 s0_5) else (if s0_4 = true then (ping_Health_Tick.j0 k (decide ((wrap64 (s0_2 + 1)) ≥ s0_1)) s0_0 s0_1 (wrap64 (s0_2 + 1)) s0_3 s0_4 s0_5) else (ping_Health_Tick.j0 k false s0_0 s0_1 (wrap64 (s0_2 + 1)) s0_3 s0_4 s0_5))) = some (r1, r2, r3, r4, r5, r6, r7, r8) := h
  clear h
  have HC2 := Aside0.mk H
  clear H
  obtain ⟨HGz3, hgz3⟩ := HI0.out
  have hcz3_0 := cellS42_0 HGz3
  have hcz3_1 := cellS42_1 HGz3
  have hcz3_2 := cellS42_2 HGz3
  have hcz3_3 := cellS42_3 HGz3
  have hcz3_4 := cellS42_4 HGz3
  have hcz3_5 := cellS42_5 HGz3
  have hfz3_0 := blk_frozen HGz3 0
  have hfz3_1 := blk_frozen HGz3 1
  have hfz3_2 := blk_frozen HGz3 2
  have hfz3_3 := blk_frozen HGz3 3
  have hfz3_4 := blk_frozen HGz3 4
  have hfz3_5 := blk_frozen HGz3 5
  clear HGz3 hgz3
  go_enter Try.func10, Try.ntmps10
  go_upto_region 4 with (fail)
  repeat (go_quiet (fail); go_upto_region 4 with (fail))
  go_cut [13] (fun v13 wc => ∃ (kq : Nat) (x13_1 : Bool), v13 = .bool x13_1 ∧ Aside0 (ping_Health_Tick.j0 kq x13_1 s0_0 s0_1 (wrap64 (s0_2 + 1)) s0_3 s0_4 s0_5 = some (r1, r2, r3, r4, r5, r6, r7, r8)) ∧ Aside0 (kq ≤ k) ∧ Aside0 (IsS42 w0 wc g s0_0 s0_1 (wrap64 (s0_2 + 1)) s0_3 s0_4 s0_5) ∧ Aside0 (KeepBut w wc g none) ∧ Aside0 (Below w0.heap.size w0 wc))
  case first =>
    have H := HC2.out
    clear HC2
    by_cases c4 : s0_5 = true
    · subst c4
      have H1 : (ping_Health_Tick.j0 k true s0_0 s0_1 (wrap64 (s0_2 + 1)) s0_3 s0_4 true) = some (r1, r2, r3, r4, r5, r6, r7, r8) := by rw [if_pos rfl] at H; exact H
      clear H
      have H := H1
      clear H1
      have H' := Aside0.mk H
      clear H
      obtain ⟨HGz5, hgz5⟩ := HI0.out
      have hcz5_0 := cellS42_0 HGz5
      have hcz5_1 := cellS42_1 HGz5
      have hcz5_2 := cellS42_2 HGz5
      have hcz5_3 := cellS42_3 HGz5
      have hcz5_4 := cellS42_4 HGz5
      have hcz5_5 := cellS42_5 HGz5
      have hfz5_0 := blk_frozen HGz5 0
      have hfz5_1 := blk_frozen HGz5 1
      have hfz5_2 := blk_frozen HGz5 2
      have hfz5_3 := blk_frozen HGz5 3
      have hfz5_4 := blk_frozen HGz5 4
      have hfz5_5 := blk_frozen HGz5 5
      clear HGz5 hgz5
      go_wp2
      repeat (go_quiet (fail); try go_wp2)
      go_meet
      case rel => exact ⟨_, (true), (by first | rfl | (simp; done) | (simp [*]; done)), H', ⟨by first | omega | exact Nat.le_refl _⟩, ⟨by repeat (first | (with_reducible first | exact HI0.out | apply IsS42.alloc | apply IsS42.drewN | apply IsS42.drew | apply IsS42.set_0 | apply IsS42.set_1 | apply IsS42.set_2 | apply IsS42.set_3 | apply IsS42.set_4 | apply IsS42.set_5) | exact HI0.out)⟩, ⟨by repeat (first | (with_reducible first | exact HK.out | apply KeepBut.set_ | apply keep_drewN | apply keep_drew | apply keep_alloc) | exact HK.out)⟩, ⟨by repeat (first | (with_reducible first | exact HB.out | apply below_alloc | apply pw_below_drewN | apply below_drew1 | refine below_set ?_ (IsS42.ge HI0.out)) | exact HB.out)⟩⟩
    · replace c4 := Bool.eq_false_iff.mpr c4
      subst c4
      have H1 : (if s0_4 = true then (ping_Health_Tick.j0 k (decide ((wrap64 (s0_2 + 1)) ≥ s0_1)) s0_0 s0_1 (wrap64 (s0_2 + 1)) s0_3 s0_4 false) else (ping_Health_Tick.j0 k false s0_0 s0_1 (wrap64 (s0_2 + 1)) s0_3 s0_4 false)) = some (r1, r2, r3, r4, r5, r6, r7, r8) := by rw [if_neg (show ¬ (false = true) by decide)] at H; exact H
      clear H
      have H := H1
      clear H1
      by_cases c6 : s0_4 = true
      · subst c6
        have H1 : (ping_Health_Tick.j0 k (decide ((wrap64 (s0_2 + 1)) ≥ s0_1)) s0_0 s0_1 (wrap64 (s0_2 + 1)) s0_3 true false) = some (r1, r2, r3, r4, r5, r6, r7, r8) := by rw [if_pos rfl] at H; exact H
        clear H
        have H := H1
        clear H1
        have H' := Aside0.mk H
        clear H
        obtain ⟨HGz7, hgz7⟩ := HI0.out
        have hcz7_0 := cellS42_0 HGz7
        have hcz7_1 := cellS42_1 HGz7
        have hcz7_2 := cellS42_2 HGz7
        have hcz7_3 := cellS42_3 HGz7
        have hcz7_4 := cellS42_4 HGz7
        have hcz7_5 := cellS42_5 HGz7
        have hfz7_0 := blk_frozen HGz7 0
        have hfz7_1 := blk_frozen HGz7 1
        have hfz7_2 := blk_frozen HGz7 2
        have hfz7_3 := blk_frozen HGz7 3
        have hfz7_4 := blk_frozen HGz7 4
        have hfz7_5 := blk_frozen HGz7 5
        clear HGz7 hgz7
        go_wp2
        repeat (go_quiet (fail); try go_wp2)
        go_meet
        case rel => exact ⟨_, (decide ((wrap64 (s0_2 + 1)) ≥ s0_1)), (by first | rfl | (simp; done) | (simp [*]; done)), H', ⟨by first | omega | exact Nat.le_refl _⟩, ⟨by repeat (first | (with_reducible first | exact HI0.out | apply IsS42.alloc | apply IsS42.drewN | apply IsS42.drew | apply IsS42.set_0 | apply IsS42.set_1 | apply IsS42.set_2 | apply IsS42.set_3 | apply IsS42.set_4 | apply IsS42.set_5) | exact HI0.out)⟩, ⟨by repeat (first | (with_reducible first | exact HK.out | apply KeepBut.set_ | apply keep_drewN | apply keep_drew | apply keep_alloc) | exact HK.out)⟩, ⟨by repeat (first | (with_reducible first | exact HB.out | apply below_alloc | apply pw_below_drewN | apply below_drew1 | refine below_set ?_ (IsS42.ge HI0.out)) | exact HB.out)⟩⟩
      · replace c6 := Bool.eq_false_iff.mpr c6
        subst c6
        have H1 : (ping_Health_Tick.j0 k false s0_0 s0_1 (wrap64 (s0_2 + 1)) s0_3 false false) = some (r1, r2, r3, r4, r5, r6, r7, r8) := by rw [if_neg (show ¬ (false = true) by decide)] at H; exact H
        clear H
        have H := H1
        clear H1
        have H' := Aside0.mk H
        clear H
        obtain ⟨HGz8, hgz8⟩ := HI0.out
        have hcz8_0 := cellS42_0 HGz8
        have hcz8_1 := cellS42_1 HGz8
        have hcz8_2 := cellS42_2 HGz8
        have hcz8_3 := cellS42_3 HGz8
        have hcz8_4 := cellS42_4 HGz8
        have hcz8_5 := cellS42_5 HGz8
        have hfz8_0 := blk_frozen HGz8 0
        have hfz8_1 := blk_frozen HGz8 1
        have hfz8_2 := blk_frozen HGz8 2
        have hfz8_3 := blk_frozen HGz8 3
        have hfz8_4 := blk_frozen HGz8 4
        have hfz8_5 := blk_frozen HGz8 5
        clear HGz8 hgz8
        go_wp2
        repeat (go_quiet (fail); try go_wp2)
        go_meet
        case rel => exact ⟨_, (false), (by first | rfl | (simp; done) | (simp [*]; done)), H', ⟨by first | omega | exact Nat.le_refl _⟩, ⟨by repeat (first | (with_reducible first | exact HI0.out | apply IsS42.alloc | apply IsS42.drewN | apply IsS42.drew | apply IsS42.set_0 | apply IsS42.set_1 | apply IsS42.set_2 | apply IsS42.set_3 | apply IsS42.set_4 | apply IsS42.set_5) | exact HI0.out)⟩, ⟨by repeat (first | (with_reducible first | exact HK.out | apply KeepBut.set_ | apply keep_drewN | apply keep_drew | apply keep_alloc) | exact HK.out)⟩, ⟨by repeat (first | (with_reducible first | exact HB.out | apply below_alloc | apply pw_below_drewN | apply below_drew1 | refine below_set ?_ (IsS42.ge HI0.out)) | exact HB.out)⟩⟩
  case rest =>
    clear HC2
    try clear c1
    try clear p2
    try clear c4
    try clear c6
    try clear p6
    try clear hcz3_0
    try clear hcz3_1
    try clear hcz3_2
    try clear hcz3_3
    try clear hcz3_4
    try clear hcz3_5
    try clear hcz5_0
    try clear hcz5_1
    try clear hcz5_2
    try clear hcz5_3
    try clear hcz5_4
    try clear hcz5_5
    try clear hcz7_0
    try clear hcz7_1
    try clear hcz7_2
    try clear hcz7_3
    try clear hcz7_4
    try clear hcz7_5
    try clear hcz8_0
    try clear hcz8_1
    try clear hcz8_2
    try clear hcz8_3
    try clear hcz8_4
    try clear hcz8_5
    try clear hfz3_0
    try clear hfz3_1
    try clear hfz3_2
    try clear hfz3_3
    try clear hfz3_4
    try clear hfz3_5
    try clear hfz5_0
    try clear hfz5_1
    try clear hfz5_2
    try clear hfz5_3
    try clear hfz5_4
    try clear hfz5_5
    try clear hfz7_0
    try clear hfz7_1
    try clear hfz7_2
    try clear hfz7_3
    try clear hfz7_4
    try clear hfz7_5
    try clear hfz8_0
    try clear hfz8_1
    try clear hfz8_2
    try clear hfz8_3
    try clear hfz8_4
    try clear hfz8_5
    obtain ⟨kq, x13_1, rfl, HA, HJ1, HI0, HK, HB⟩ := hcut
    cases kq with
    | zero => exact absurd HA.out (by simp [ping_Health_Tick.j0])
    | succ kj1 =>
      have H := HA.out
      clear HA
      simp only [ping_Health_Tick.j0] at H
      by_cases c9 : x13_1 = true
      · subst c9
        have H1 : (some ((⟨#[]⟩ : ByteArray), true, s0_0, s0_1, (wrap64 (s0_2 + 1)), s0_3, s0_4, true)) = some (r1, r2, r3, r4, r5, r6, r7, r8) := by rw [if_pos rfl] at H; exact H
        clear H
        have H := H1
        clear H1
        simp only [Option.some.injEq, Prod.mk.injEq] at H
        obtain ⟨rfl, rfl, rfl, rfl, rfl, rfl, rfl, rfl⟩ := H
        obtain ⟨HGz10, hgz10⟩ := HI0.out
        have hcz10_0 := cellS42_0 HGz10
        have hcz10_1 := cellS42_1 HGz10
        have hcz10_2 := cellS42_2 HGz10
        have hcz10_3 := cellS42_3 HGz10
        have hcz10_4 := cellS42_4 HGz10
        have hcz10_5 := cellS42_5 HGz10
        have hfz10_0 := blk_frozen HGz10 0
        have hfz10_1 := blk_frozen HGz10 1
        have hfz10_2 := blk_frozen HGz10 2
        have hfz10_3 := blk_frozen HGz10 3
        have hfz10_4 := blk_frozen HGz10 4
        have hfz10_5 := blk_frozen HGz10 5
        clear HGz10 hgz10
        go_wp2
        repeat (go_quiet (fail); try go_wp2)
        go_ret2
        exact ⟨by first | rfl | (simp [errW_none, errW_some] <;> rfl) | (simp [*, errW_none, errW_some] <;> rfl), by repeat (first | (with_reducible first | exact HI0.out | apply IsS42.alloc | apply IsS42.drewN | apply IsS42.drew | apply IsS42.set_0 | apply IsS42.set_1 | apply IsS42.set_2 | apply IsS42.set_3 | apply IsS42.set_4 | apply IsS42.set_5) | exact HI0.out), by repeat (first | (with_reducible first | exact HB.out | apply below_alloc | apply pw_below_drewN | apply below_drew1 | refine below_set ?_ (IsS42.ge HI0.out)) | exact HB.out), by repeat (first | (with_reducible first | exact HK.out | apply KeepBut.set_ | apply keep_drewN | apply keep_drew | apply keep_alloc) | exact HK.out)⟩
      · replace c9 := Bool.eq_false_iff.mpr c9
        subst c9
        have H1 : (if s0_4 = true then (some ((⟨#[]⟩ : ByteArray), false, s0_0, s0_1, (wrap64 (s0_2 + 1)), s0_3, s0_4, s0_5)) else (if (wrap64 (s0_2 + 1)) < s0_0 then (some ((⟨#[]⟩ : ByteArray), false, s0_0, s0_1, (wrap64 (s0_2 + 1)), s0_3, s0_4, s0_5)) else ((ping_Health_body.f kj1 s0_0 s0_1 0 (wrap64 (s0_3 + 1)) true s0_5).bind fun bt105 => (some (bt105.1, false, bt105.2.1, bt105.2.2.1, bt105.2.2.2.1, bt105.2.2.2.2.1, bt105.2.2.2.2.2.1, bt105.2.2.2.2.2.2))))) = some (r1, r2, r3, r4, r5, r6, r7, r8) := by rw [if_neg (show ¬ (false = true) by decide)] at H; exact H
        clear H
        have H := H1
        clear H1
        by_cases c11 : s0_4 = true
        · subst c11
          have H1 : (some ((⟨#[]⟩ : ByteArray), false, s0_0, s0_1, (wrap64 (s0_2 + 1)), s0_3, true, s0_5)) = some (r1, r2, r3, r4, r5, r6, r7, r8) := by rw [if_pos rfl] at H; exact H
          clear H
          have H := H1
          clear H1
          simp only [Option.some.injEq, Prod.mk.injEq] at H
          obtain ⟨rfl, rfl, rfl, rfl, rfl, rfl, rfl, rfl⟩ := H
          obtain ⟨HGz12, hgz12⟩ := HI0.out
          have hcz12_0 := cellS42_0 HGz12
          have hcz12_1 := cellS42_1 HGz12
          have hcz12_2 := cellS42_2 HGz12
          have hcz12_3 := cellS42_3 HGz12
          have hcz12_4 := cellS42_4 HGz12
          have hcz12_5 := cellS42_5 HGz12
          have hfz12_0 := blk_frozen HGz12 0
          have hfz12_1 := blk_frozen HGz12 1
          have hfz12_2 := blk_frozen HGz12 2
          have hfz12_3 := blk_frozen HGz12 3
          have hfz12_4 := blk_frozen HGz12 4
          have hfz12_5 := blk_frozen HGz12 5
          clear HGz12 hgz12
          go_wp2
          repeat (go_quiet (fail); try go_wp2)
          go_ret2
          exact ⟨by first | rfl | (simp [errW_none, errW_some] <;> rfl) | (simp [*, errW_none, errW_some] <;> rfl), by repeat (first | (with_reducible first | exact HI0.out | apply IsS42.alloc | apply IsS42.drewN | apply IsS42.drew | apply IsS42.set_0 | apply IsS42.set_1 | apply IsS42.set_2 | apply IsS42.set_3 | apply IsS42.set_4 | apply IsS42.set_5) | exact HI0.out), by repeat (first | (with_reducible first | exact HB.out | apply below_alloc | apply pw_below_drewN | apply below_drew1 | refine below_set ?_ (IsS42.ge HI0.out)) | exact HB.out), by repeat (first | (with_reducible first | exact HK.out | apply KeepBut.set_ | apply keep_drewN | apply keep_drew | apply keep_alloc) | exact HK.out)⟩
        · replace c11 := Bool.eq_false_iff.mpr c11
          subst c11
          have H1 : (if (wrap64 (s0_2 + 1)) < s0_0 then (some ((⟨#[]⟩ : ByteArray), false, s0_0, s0_1, (wrap64 (s0_2 + 1)), s0_3, false, s0_5)) else ((ping_Health_body.f kj1 s0_0 s0_1 0 (wrap64 (s0_3 + 1)) true s0_5).bind fun bt105 => (some (bt105.1, false, bt105.2.1, bt105.2.2.1, bt105.2.2.2.1, bt105.2.2.2.2.1, bt105.2.2.2.2.2.1, bt105.2.2.2.2.2.2)))) = some (r1, r2, r3, r4, r5, r6, r7, r8) := by rw [if_neg (show ¬ (false = true) by decide)] at H; exact H
          clear H
          have H := H1
          clear H1
          by_cases c13 : (wrap64 (s0_2 + 1)) < s0_0
          · rw [if_pos c13] at H
            have c13b0 : decide ((wrap64 (s0_2 + 1)) < s0_0) = true := decide_eq_true c13
            clear c13
            simp only [Option.some.injEq, Prod.mk.injEq] at H
            obtain ⟨rfl, rfl, rfl, rfl, rfl, rfl, rfl, rfl⟩ := H
            obtain ⟨HGz14, hgz14⟩ := HI0.out
            have hcz14_0 := cellS42_0 HGz14
            have hcz14_1 := cellS42_1 HGz14
            have hcz14_2 := cellS42_2 HGz14
            have hcz14_3 := cellS42_3 HGz14
            have hcz14_4 := cellS42_4 HGz14
            have hcz14_5 := cellS42_5 HGz14
            have hfz14_0 := blk_frozen HGz14 0
            have hfz14_1 := blk_frozen HGz14 1
            have hfz14_2 := blk_frozen HGz14 2
            have hfz14_3 := blk_frozen HGz14 3
            have hfz14_4 := blk_frozen HGz14 4
            have hfz14_5 := blk_frozen HGz14 5
            clear HGz14 hgz14
            go_wp2
            repeat (go_quiet (fail); try go_wp2)
            go_ret2
            exact ⟨by first | rfl | (simp [errW_none, errW_some] <;> rfl) | (simp [*, errW_none, errW_some] <;> rfl), by repeat (first | (with_reducible first | exact HI0.out | apply IsS42.alloc | apply IsS42.drewN | apply IsS42.drew | apply IsS42.set_0 | apply IsS42.set_1 | apply IsS42.set_2 | apply IsS42.set_3 | apply IsS42.set_4 | apply IsS42.set_5) | exact HI0.out), by repeat (first | (with_reducible first | exact HB.out | apply below_alloc | apply pw_below_drewN | apply below_drew1 | refine below_set ?_ (IsS42.ge HI0.out)) | exact HB.out), by repeat (first | (with_reducible first | exact HK.out | apply KeepBut.set_ | apply keep_drewN | apply keep_drew | apply keep_alloc) | exact HK.out)⟩
          · rw [if_neg c13] at H
            have c13b0 : decide ((wrap64 (s0_2 + 1)) < s0_0) = false := decide_eq_false c13
            clear c13
            replace H := Option.bind_eq_some_iff.mp H
            obtain ⟨⟨t105, t106, t107, t108, t109, t110, t111⟩, A150, H⟩ := H
            replace H : (some (t105, false, t106, t107, t108, t109, t110, t111)) = some (r1, r2, r3, r4, r5, r6, r7, r8) := H
            have A15 := Aside0.mk A150
            clear A150
            simp only [Option.some.injEq, Prod.mk.injEq] at H
            obtain ⟨rfl, rfl, rfl, rfl, rfl, rfl, rfl, rfl⟩ := H
            obtain ⟨HGz16, hgz16⟩ := HI0.out
            have hcz16_0 := cellS42_0 HGz16
            have hcz16_1 := cellS42_1 HGz16
            have hcz16_2 := cellS42_2 HGz16
            have hcz16_3 := cellS42_3 HGz16
            have hcz16_4 := cellS42_4 HGz16
            have hcz16_5 := cellS42_5 HGz16
            have hfz16_0 := blk_frozen HGz16 0
            have hfz16_1 := blk_frozen HGz16 1
            have hfz16_2 := blk_frozen HGz16 2
            have hfz16_3 := blk_frozen HGz16 3
            have hfz16_4 := blk_frozen HGz16 4
            have hfz16_5 := blk_frozen HGz16 5
            clear HGz16 hgz16
            go_wp2_with (first | (go_at_call 17; (with_reducible refine (ping_Health_body.calls kj1 g s0_0 s0_1 0 (wrap64 (s0_3 + 1)) true s0_5 t105 t106 t107 t108 t109 t110 t111 w0 _ ?side1 ?side2 A15.out).mono ?_); (case side1 => repeat (first | (with_reducible first | exact HI0.out | apply IsS42.alloc | apply IsS42.drewN | apply IsS42.drew | apply IsS42.set_0 | apply IsS42.set_1 | apply IsS42.set_2 | apply IsS42.set_3 | apply IsS42.set_4 | apply IsS42.set_5) | exact HI0.out)); (case side2 => repeat (first | (with_reducible first | exact HB.out | apply below_alloc | apply pw_below_drewN | apply below_drew1 | refine below_set ?_ (IsS42.ge HI0.out)) | exact HB.out)); rintro e w17 ⟨rfl, hi, hb, hk⟩; have n0_ := Aside0.mk (KeepBut.trans (by repeat (first | (with_reducible first | exact HK.out | apply KeepBut.set_ | apply keep_drewN | apply keep_drew | apply keep_alloc) | exact HK.out)) hk (.inl rfl)); have n1_ := Aside0.mk (hb); have n2_ := Aside0.mk (hi); clear HK; clear HB; clear HI0; have HK := n0_; have HB := n1_; have HI0 := n2_; clear n0_ n1_ n2_; (try clear hb); (try clear hb2); (try clear hk); (try clear hi)))
            repeat (go_quiet (first | (go_at_call 17; (with_reducible refine (ping_Health_body.calls kj1 g s0_0 s0_1 0 (wrap64 (s0_3 + 1)) true s0_5 t105 t106 t107 t108 t109 t110 t111 w0 _ ?side1 ?side2 A15.out).mono ?_); (case side1 => repeat (first | (with_reducible first | exact HI0.out | apply IsS42.alloc | apply IsS42.drewN | apply IsS42.drew | apply IsS42.set_0 | apply IsS42.set_1 | apply IsS42.set_2 | apply IsS42.set_3 | apply IsS42.set_4 | apply IsS42.set_5) | exact HI0.out)); (case side2 => repeat (first | (with_reducible first | exact HB.out | apply below_alloc | apply pw_below_drewN | apply below_drew1 | refine below_set ?_ (IsS42.ge HI0.out)) | exact HB.out)); rintro e w17 ⟨rfl, hi, hb, hk⟩; have n0_ := Aside0.mk (KeepBut.trans (by repeat (first | (with_reducible first | exact HK.out | apply KeepBut.set_ | apply keep_drewN | apply keep_drew | apply keep_alloc) | exact HK.out)) hk (.inl rfl)); have n1_ := Aside0.mk (hb); have n2_ := Aside0.mk (hi); clear HK; clear HB; clear HI0; have HK := n0_; have HB := n1_; have HI0 := n2_; clear n0_ n1_ n2_; (try clear hb); (try clear hb2); (try clear hk); (try clear hi))); try go_wp2_with (first | (go_at_call 17; (with_reducible refine (ping_Health_body.calls kj1 g s0_0 s0_1 0 (wrap64 (s0_3 + 1)) true s0_5 t105 t106 t107 t108 t109 t110 t111 w0 _ ?side1 ?side2 A15.out).mono ?_); (case side1 => repeat (first | (with_reducible first | exact HI0.out | apply IsS42.alloc | apply IsS42.drewN | apply IsS42.drew | apply IsS42.set_0 | apply IsS42.set_1 | apply IsS42.set_2 | apply IsS42.set_3 | apply IsS42.set_4 | apply IsS42.set_5) | exact HI0.out)); (case side2 => repeat (first | (with_reducible first | exact HB.out | apply below_alloc | apply pw_below_drewN | apply below_drew1 | refine below_set ?_ (IsS42.ge HI0.out)) | exact HB.out)); rintro e w17 ⟨rfl, hi, hb, hk⟩; have n0_ := Aside0.mk (KeepBut.trans (by repeat (first | (with_reducible first | exact HK.out | apply KeepBut.set_ | apply keep_drewN | apply keep_drew | apply keep_alloc) | exact HK.out)) hk (.inl rfl)); have n1_ := Aside0.mk (hb); have n2_ := Aside0.mk (hi); clear HK; clear HB; clear HI0; have HK := n0_; have HB := n1_; have HI0 := n2_; clear n0_ n1_ n2_; (try clear hb); (try clear hb2); (try clear hk); (try clear hi))))
            go_ret2
            exact ⟨by first | rfl | (simp [errW_none, errW_some] <;> rfl) | (simp [*, errW_none, errW_some] <;> rfl), by repeat (first | (with_reducible first | exact HI0.out | apply IsS42.alloc | apply IsS42.drewN | apply IsS42.drew | apply IsS42.set_0 | apply IsS42.set_1 | apply IsS42.set_2 | apply IsS42.set_3 | apply IsS42.set_4 | apply IsS42.set_5) | exact HI0.out), by repeat (first | (with_reducible first | exact HB.out | apply below_alloc | apply pw_below_drewN | apply below_drew1 | refine below_set ?_ (IsS42.ge HI0.out)) | exact HB.out), by repeat (first | (with_reducible first | exact HK.out | apply KeepBut.set_ | apply keep_drewN | apply keep_drew | apply keep_alloc) | exact HK.out)⟩

/-! ### ping_Health_Waits: function 12 -/
def ping_Health_Waits.f (s0_0 : Int) (s0_1 : Int) (s0_2 : Int) (s0_3 : Int) (s0_4 : Bool) (s0_5 : Bool) : Option (Bool × Int × Int × Int × Int × Bool × Bool) := some (s0_4, s0_0, s0_1, s0_2, s0_3, s0_4, s0_5)
set_option maxHeartbeats 8000000 in
set_option maxRecDepth 100000 in
theorem ping_Health_Waits.calls (g : Nat) (s0_0 : Int) (s0_1 : Int) (s0_2 : Int) (s0_3 : Int) (s0_4 : Bool) (s0_5 : Bool) (r1 : Bool) (r2 : Int) (r3 : Int) (r4 : Int) (r5 : Int) (r6 : Bool) (r7 : Bool) (w0 w : World) (hI : IsS42 w0 w g s0_0 s0_1 s0_2 s0_3 s0_4 s0_5) (hB : Below w0.heap.size w0 w) (h : ping_Health_Waits.f s0_0 s0_1 s0_2 s0_3 s0_4 s0_5 = some (r1, r2, r3, r4, r5, r6, r7)) :
    Calls Try.prog 12 #[.pointer (some ⟨g, 0, none⟩)] w fun e w' => e = .returned (.bool r1) ∧ IsS42 w0 w' g r2 r3 r4 r5 r6 r7 ∧ Below w0.heap.size w0 w' ∧ KeepBut w w' g none := by
  have HI0 := Aside0.mk hI
  have HK := Aside0.mk (KeepBut.refl w g none)
  have HL := Aside0.mk hB.size
  clear hI
  have HW0 := Aside0.mk hB.size
  have HB := Aside0.mk hB
  clear hB
  have H : (some (s0_4, s0_0, s0_1, s0_2, s0_3, s0_4, s0_5)) = some (r1, r2, r3, r4, r5, r6, r7) := h
  clear h
  simp only [Option.some.injEq, Prod.mk.injEq] at H
  obtain ⟨rfl, rfl, rfl, rfl, rfl, rfl, rfl⟩ := H
  obtain ⟨HGz2, hgz2⟩ := HI0.out
  have hcz2_0 := cellS42_0 HGz2
  have hcz2_1 := cellS42_1 HGz2
  have hcz2_2 := cellS42_2 HGz2
  have hcz2_3 := cellS42_3 HGz2
  have hcz2_4 := cellS42_4 HGz2
  have hcz2_5 := cellS42_5 HGz2
  have hfz2_0 := blk_frozen HGz2 0
  have hfz2_1 := blk_frozen HGz2 1
  have hfz2_2 := blk_frozen HGz2 2
  have hfz2_3 := blk_frozen HGz2 3
  have hfz2_4 := blk_frozen HGz2 4
  have hfz2_5 := blk_frozen HGz2 5
  clear HGz2 hgz2
  go_enter Try.func12, Try.ntmps12
  go_wp2
  go_ret
  exact ⟨by first | rfl | (simp [errW_none, errW_some] <;> rfl) | (simp [*, errW_none, errW_some] <;> rfl), by repeat (first | (with_reducible first | exact HI0.out | apply IsS42.alloc | apply IsS42.drewN | apply IsS42.drew | apply IsS42.set_0 | apply IsS42.set_1 | apply IsS42.set_2 | apply IsS42.set_3 | apply IsS42.set_4 | apply IsS42.set_5) | exact HI0.out), by repeat (first | (with_reducible first | exact HB.out | apply below_alloc | apply pw_below_drewN | apply below_drew1 | refine below_set ?_ (IsS42.ge HI0.out)) | exact HB.out), by repeat (first | (with_reducible first | exact HK.out | apply KeepBut.set_ | apply keep_drewN | apply keep_drew | apply keep_alloc) | exact HK.out)⟩

/-! ### ping_Health_Got: function 11 -/
def ping_Health_Got.f (k : Nat) (s0_0 : Int) (s0_1 : Int) (s0_2 : Int) (s0_3 : Int) (s0_4 : Bool) (s0_5 : Bool) (a1 : ByteArray) : Option (Bool × Int × Int × Int × Int × Bool × Bool) := (ping_Health_Waits.f s0_0 s0_1 s0_2 s0_3 s0_4 s0_5).bind fun bt112 => (if bt112.1 = true then (if bt112.2.2.2.2.2.2 = true then (some (false, bt112.2.1, bt112.2.2.1, bt112.2.2.2.1, bt112.2.2.2.2.1, bt112.2.2.2.2.2.1, bt112.2.2.2.2.2.2)) else ((ping_Health_body.f k bt112.2.1 bt112.2.2.1 bt112.2.2.2.1 bt112.2.2.2.2.1 bt112.2.2.2.2.2.1 bt112.2.2.2.2.2.2).bind fun bt119 => (if a1.toList = bt119.1.toList then (some (true, bt119.2.1, bt119.2.2.1, 0, bt119.2.2.2.2.1, false, bt119.2.2.2.2.2.2)) else (some (false, bt119.2.1, bt119.2.2.1, bt119.2.2.2.1, bt119.2.2.2.2.1, bt119.2.2.2.2.2.1, bt119.2.2.2.2.2.2))))) else (some (false, bt112.2.1, bt112.2.2.1, bt112.2.2.2.1, bt112.2.2.2.2.1, bt112.2.2.2.2.2.1, bt112.2.2.2.2.2.2)))
theorem ping_Health_Got.mono : ∀ a0 a1 a2 a3 a4 a5 a6 k, LeO (ping_Health_Got.f k a0 a1 a2 a3 a4 a5 a6) (ping_Health_Got.f (k + 1) a0 a1 a2 a3 a4 a5 a6) := by
  intro a0 a1 a2 a3 a4 a5 a6 k
  unfold ping_Health_Got.f
  repeat' first
      | (with_reducible exact ping_Health_body.mono _ _ _ _ _ _ _)
      | (with_reducible exact LeO.refl _)
      | (with_reducible exact LeO.none _)
      | (with_reducible refine LeO.ite ?_ ?_)
      | (with_reducible refine LeO.bind ?_ (fun _ => ?_))
      | exact ping_Health_body.mono _ _ _ _ _ _ _
      | exact LeO.none _
      | refine LeO.ite ?_ ?_
      | refine LeO.bind ?_ (fun _ => ?_)
set_option maxHeartbeats 8000000 in
set_option maxRecDepth 100000 in
theorem ping_Health_Got.calls (k : Nat) (g : Nat) (s0_0 : Int) (s0_1 : Int) (s0_2 : Int) (s0_3 : Int) (s0_4 : Bool) (s0_5 : Bool) (a1 : ByteArray) (r1 : Bool) (r2 : Int) (r3 : Int) (r4 : Int) (r5 : Int) (r6 : Bool) (r7 : Bool) (w0 w : World) (hI : IsS42 w0 w g s0_0 s0_1 s0_2 s0_3 s0_4 s0_5) (hB : Below w0.heap.size w0 w) (h : ping_Health_Got.f k s0_0 s0_1 s0_2 s0_3 s0_4 s0_5 a1 = some (r1, r2, r3, r4, r5, r6, r7)) :
    Calls Try.prog 11 #[.pointer (some ⟨g, 0, none⟩), .string a1] w fun e w' => e = .returned (.bool r1) ∧ IsS42 w0 w' g r2 r3 r4 r5 r6 r7 ∧ Below w0.heap.size w0 w' ∧ KeepBut w w' g none := by
  have HI0 := Aside0.mk hI
  have HK := Aside0.mk (KeepBut.refl w g none)
  have HL := Aside0.mk hB.size
  clear hI
  have HW0 := Aside0.mk hB.size
  have HB := Aside0.mk hB
  clear hB
  have H : ((ping_Health_Waits.f s0_0 s0_1 s0_2 s0_3 s0_4 s0_5).bind fun bt112 => (if bt112.1 = true then (if bt112.2.2.2.2.2.2 = true then (some (false, bt112.2.1, bt112.2.2.1, bt112.2.2.2.1, bt112.2.2.2.2.1, bt112.2.2.2.2.2.1, bt112.2.2.2.2.2.2)) else ((ping_Health_body.f k bt112.2.1 bt112.2.2.1 bt112.2.2.2.1 bt112.2.2.2.2.1 bt112.2.2.2.2.2.1 bt112.2.2.2.2.2.2).bind fun bt119 => (if a1.toList = bt119.1.toList then (some (true, bt119.2.1, bt119.2.2.1, 0, bt119.2.2.2.2.1, false, bt119.2.2.2.2.2.2)) else (some (false, bt119.2.1, bt119.2.2.1, bt119.2.2.2.1, bt119.2.2.2.2.1, bt119.2.2.2.2.2.1, bt119.2.2.2.2.2.2))))) else (some (false, bt112.2.1, bt112.2.2.1, bt112.2.2.2.1, bt112.2.2.2.2.1, bt112.2.2.2.2.2.1, bt112.2.2.2.2.2.2)))) = some (r1, r2, r3, r4, r5, r6, r7) := h
  clear h
  replace H := Option.bind_eq_some_iff.mp H
  obtain ⟨⟨t112, t113, t114, t115, t116, t117, t118⟩, A30, H⟩ := H
  replace H : (if t112 = true then (if t118 = true then (some (false, t113, t114, t115, t116, t117, t118)) else ((ping_Health_body.f k t113 t114 t115 t116 t117 t118).bind fun bt119 => (if a1.toList = bt119.1.toList then (some (true, bt119.2.1, bt119.2.2.1, 0, bt119.2.2.2.2.1, false, bt119.2.2.2.2.2.2)) else (some (false, bt119.2.1, bt119.2.2.1, bt119.2.2.2.1, bt119.2.2.2.2.1, bt119.2.2.2.2.2.1, bt119.2.2.2.2.2.2))))) else (some (false, t113, t114, t115, t116, t117, t118))) = some (r1, r2, r3, r4, r5, r6, r7) := H
  have A3 := Aside0.mk A30
  clear A30
  by_cases c4 : t112 = true
  · subst c4
    have H1 : (if t118 = true then (some (false, t113, t114, t115, t116, t117, t118)) else ((ping_Health_body.f k t113 t114 t115 t116 t117 t118).bind fun bt119 => (if a1.toList = bt119.1.toList then (some (true, bt119.2.1, bt119.2.2.1, 0, bt119.2.2.2.2.1, false, bt119.2.2.2.2.2.2)) else (some (false, bt119.2.1, bt119.2.2.1, bt119.2.2.2.1, bt119.2.2.2.2.1, bt119.2.2.2.2.2.1, bt119.2.2.2.2.2.2))))) = some (r1, r2, r3, r4, r5, r6, r7) := by rw [if_pos rfl] at H; exact H
    clear H
    have H := H1
    clear H1
    by_cases c5 : t118 = true
    · subst c5
      have H1 : (some (false, t113, t114, t115, t116, t117, true)) = some (r1, r2, r3, r4, r5, r6, r7) := by rw [if_pos rfl] at H; exact H
      clear H
      have H := H1
      clear H1
      simp only [Option.some.injEq, Prod.mk.injEq] at H
      obtain ⟨rfl, rfl, rfl, rfl, rfl, rfl, rfl⟩ := H
      go_enter Try.func11, Try.ntmps11
      go_wp2_with (first | ((with_reducible refine gate_callee (f := 12) rfl ?_); refine goesL_ (some 6) rfl rfl Try.func12 (by kernel_rfl) rfl #[.pointer (some ⟨g, 0, none⟩)] rfl (by (try simp only [List.map_toArray, List.map_cons, List.map_nil]); first | done | rfl | (simp only [List.length_drop, List.length_take]; rfl)) ?_; (with_reducible refine (ping_Health_Waits.calls g s0_0 s0_1 s0_2 s0_3 s0_4 s0_5 true t113 t114 t115 t116 t117 true w0 _ ?side1 ?side2 A3.out).mono ?_); (case side1 => repeat (first | (with_reducible first | exact HI0.out | apply IsS42.alloc | apply IsS42.drewN | apply IsS42.drew | apply IsS42.set_0 | apply IsS42.set_1 | apply IsS42.set_2 | apply IsS42.set_3 | apply IsS42.set_4 | apply IsS42.set_5) | exact HI0.out)); (case side2 => repeat (first | (with_reducible first | exact HB.out | apply below_alloc | apply pw_below_drewN | apply below_drew1 | refine below_set ?_ (IsS42.ge HI0.out)) | exact HB.out)); rintro e w6 ⟨rfl, hi, hb, hk⟩; refine ⟨_, rfl, ?_⟩; have n0_ := Aside0.mk (KeepBut.trans (by repeat (first | (with_reducible first | exact HK.out | apply KeepBut.set_ | apply keep_drewN | apply keep_drew | apply keep_alloc) | exact HK.out)) hk (.inl rfl)); have n1_ := Aside0.mk (hb); have n2_ := Aside0.mk (hi); clear HK; clear HB; clear HI0; have HK := n0_; have HB := n1_; have HI0 := n2_; clear n0_ n1_ n2_; (try clear hb); (try clear hb2); (try clear hk); (try clear hi); obtain ⟨HGz7, hgz7⟩ := HI0.out; have hcz7_0 := cellS42_0 HGz7; have hcz7_1 := cellS42_1 HGz7; have hcz7_2 := cellS42_2 HGz7; have hcz7_3 := cellS42_3 HGz7; have hcz7_4 := cellS42_4 HGz7; have hcz7_5 := cellS42_5 HGz7; have hfz7_0 := blk_frozen HGz7 0; have hfz7_1 := blk_frozen HGz7 1; have hfz7_2 := blk_frozen HGz7 2; have hfz7_3 := blk_frozen HGz7 3; have hfz7_4 := blk_frozen HGz7 4; have hfz7_5 := blk_frozen HGz7 5; clear HGz7 hgz7))
      go_ret
      exact ⟨by first | rfl | (simp [errW_none, errW_some] <;> rfl) | (simp [*, errW_none, errW_some] <;> rfl), by repeat (first | (with_reducible first | exact HI0.out | apply IsS42.alloc | apply IsS42.drewN | apply IsS42.drew | apply IsS42.set_0 | apply IsS42.set_1 | apply IsS42.set_2 | apply IsS42.set_3 | apply IsS42.set_4 | apply IsS42.set_5) | exact HI0.out), by repeat (first | (with_reducible first | exact HB.out | apply below_alloc | apply pw_below_drewN | apply below_drew1 | refine below_set ?_ (IsS42.ge HI0.out)) | exact HB.out), by repeat (first | (with_reducible first | exact HK.out | apply KeepBut.set_ | apply keep_drewN | apply keep_drew | apply keep_alloc) | exact HK.out)⟩
    · replace c5 := Bool.eq_false_iff.mpr c5
      subst c5
      have H1 : ((ping_Health_body.f k t113 t114 t115 t116 t117 false).bind fun bt119 => (if a1.toList = bt119.1.toList then (some (true, bt119.2.1, bt119.2.2.1, 0, bt119.2.2.2.2.1, false, bt119.2.2.2.2.2.2)) else (some (false, bt119.2.1, bt119.2.2.1, bt119.2.2.2.1, bt119.2.2.2.2.1, bt119.2.2.2.2.2.1, bt119.2.2.2.2.2.2)))) = some (r1, r2, r3, r4, r5, r6, r7) := by rw [if_neg (show ¬ (false = true) by decide)] at H; exact H
      clear H
      have H := H1
      clear H1
      replace H := Option.bind_eq_some_iff.mp H
      obtain ⟨⟨t119, t120, t121, t122, t123, t124, t125⟩, A80, H⟩ := H
      replace H : (if a1.toList = t119.toList then (some (true, t120, t121, 0, t123, false, t125)) else (some (false, t120, t121, t122, t123, t124, t125))) = some (r1, r2, r3, r4, r5, r6, r7) := H
      have A8 := Aside0.mk A80
      clear A80
      by_cases c9 : a1.toList = t119.toList
      · rw [if_pos c9] at H
        have c9b0 : (a1.toList == t119.toList) = true := beq_iff_eq.mpr c9
        have c9b1 : (a1.toList != t119.toList) = false := bne_eq_false_iff_eq.mpr c9
        clear c9
        simp only [Option.some.injEq, Prod.mk.injEq] at H
        obtain ⟨rfl, rfl, rfl, rfl, rfl, rfl, rfl⟩ := H
        go_enter Try.func11, Try.ntmps11
        go_wp2_with (first | ((with_reducible refine gate_callee (f := 12) rfl ?_); refine goesL_ (some 6) rfl rfl Try.func12 (by kernel_rfl) rfl #[.pointer (some ⟨g, 0, none⟩)] rfl (by (try simp only [List.map_toArray, List.map_cons, List.map_nil]); first | done | rfl | (simp only [List.length_drop, List.length_take]; rfl)) ?_; (with_reducible refine (ping_Health_Waits.calls g s0_0 s0_1 s0_2 s0_3 s0_4 s0_5 true t113 t114 t115 t116 t117 false w0 _ ?side1 ?side2 A3.out).mono ?_); (case side1 => repeat (first | (with_reducible first | exact HI0.out | apply IsS42.alloc | apply IsS42.drewN | apply IsS42.drew | apply IsS42.set_0 | apply IsS42.set_1 | apply IsS42.set_2 | apply IsS42.set_3 | apply IsS42.set_4 | apply IsS42.set_5) | exact HI0.out)); (case side2 => repeat (first | (with_reducible first | exact HB.out | apply below_alloc | apply pw_below_drewN | apply below_drew1 | refine below_set ?_ (IsS42.ge HI0.out)) | exact HB.out)); rintro e w10 ⟨rfl, hi, hb, hk⟩; refine ⟨_, rfl, ?_⟩; have n0_ := Aside0.mk (KeepBut.trans (by repeat (first | (with_reducible first | exact HK.out | apply KeepBut.set_ | apply keep_drewN | apply keep_drew | apply keep_alloc) | exact HK.out)) hk (.inl rfl)); have n1_ := Aside0.mk (hb); have n2_ := Aside0.mk (hi); clear HK; clear HB; clear HI0; have HK := n0_; have HB := n1_; have HI0 := n2_; clear n0_ n1_ n2_; (try clear hb); (try clear hb2); (try clear hk); (try clear hi); obtain ⟨HGz11, hgz11⟩ := HI0.out; have hcz11_0 := cellS42_0 HGz11; have hcz11_1 := cellS42_1 HGz11; have hcz11_2 := cellS42_2 HGz11; have hcz11_3 := cellS42_3 HGz11; have hcz11_4 := cellS42_4 HGz11; have hcz11_5 := cellS42_5 HGz11; have hfz11_0 := blk_frozen HGz11 0; have hfz11_1 := blk_frozen HGz11 1; have hfz11_2 := blk_frozen HGz11 2; have hfz11_3 := blk_frozen HGz11 3; have hfz11_4 := blk_frozen HGz11 4; have hfz11_5 := blk_frozen HGz11 5; clear HGz11 hgz11) | (go_at_call 17; (with_reducible refine (ping_Health_body.calls k g t113 t114 t115 t116 t117 false t119 t120 t121 t122 t123 t124 t125 w0 _ ?side1 ?side2 A8.out).mono ?_); (case side1 => repeat (first | (with_reducible first | exact HI0.out | apply IsS42.alloc | apply IsS42.drewN | apply IsS42.drew | apply IsS42.set_0 | apply IsS42.set_1 | apply IsS42.set_2 | apply IsS42.set_3 | apply IsS42.set_4 | apply IsS42.set_5) | exact HI0.out)); (case side2 => repeat (first | (with_reducible first | exact HB.out | apply below_alloc | apply pw_below_drewN | apply below_drew1 | refine below_set ?_ (IsS42.ge HI0.out)) | exact HB.out)); rintro e w12 ⟨rfl, hi, hb, hk⟩; have n0_ := Aside0.mk (KeepBut.trans (by repeat (first | (with_reducible first | exact HK.out | apply KeepBut.set_ | apply keep_drewN | apply keep_drew | apply keep_alloc) | exact HK.out)) hk (.inl rfl)); have n1_ := Aside0.mk (hb); have n2_ := Aside0.mk (hi); clear HK; clear HB; clear HI0; have HK := n0_; have HB := n1_; have HI0 := n2_; clear n0_ n1_ n2_; (try clear hb); (try clear hb2); (try clear hk); (try clear hi); obtain ⟨HGz13, hgz13⟩ := HI0.out; have hcz13_0 := cellS42_0 HGz13; have hcz13_1 := cellS42_1 HGz13; have hcz13_2 := cellS42_2 HGz13; have hcz13_3 := cellS42_3 HGz13; have hcz13_4 := cellS42_4 HGz13; have hcz13_5 := cellS42_5 HGz13; have hfz13_0 := blk_frozen HGz13 0; have hfz13_1 := blk_frozen HGz13 1; have hfz13_2 := blk_frozen HGz13 2; have hfz13_3 := blk_frozen HGz13 3; have hfz13_4 := blk_frozen HGz13 4; have hfz13_5 := blk_frozen HGz13 5; clear HGz13 hgz13))
        go_ret
        exact ⟨by first | rfl | (simp [errW_none, errW_some] <;> rfl) | (simp [*, errW_none, errW_some] <;> rfl), by repeat (first | (with_reducible first | exact HI0.out | apply IsS42.alloc | apply IsS42.drewN | apply IsS42.drew | apply IsS42.set_0 | apply IsS42.set_1 | apply IsS42.set_2 | apply IsS42.set_3 | apply IsS42.set_4 | apply IsS42.set_5) | exact HI0.out), by repeat (first | (with_reducible first | exact HB.out | apply below_alloc | apply pw_below_drewN | apply below_drew1 | refine below_set ?_ (IsS42.ge HI0.out)) | exact HB.out), by repeat (first | (with_reducible first | exact HK.out | apply KeepBut.set_ | apply keep_drewN | apply keep_drew | apply keep_alloc) | exact HK.out)⟩
      · rw [if_neg c9] at H
        have c9b0 : (a1.toList == t119.toList) = false := beq_eq_false_iff_ne.mpr c9
        have c9b1 : (a1.toList != t119.toList) = true := bne_iff_ne.mpr c9
        simp only [Option.some.injEq, Prod.mk.injEq] at H
        obtain ⟨rfl, rfl, rfl, rfl, rfl, rfl, rfl⟩ := H
        go_enter Try.func11, Try.ntmps11
        go_wp2_with (first | ((with_reducible refine gate_callee (f := 12) rfl ?_); refine goesL_ (some 6) rfl rfl Try.func12 (by kernel_rfl) rfl #[.pointer (some ⟨g, 0, none⟩)] rfl (by (try simp only [List.map_toArray, List.map_cons, List.map_nil]); first | done | rfl | (simp only [List.length_drop, List.length_take]; rfl)) ?_; (with_reducible refine (ping_Health_Waits.calls g s0_0 s0_1 s0_2 s0_3 s0_4 s0_5 true t113 t114 t115 t116 t117 false w0 _ ?side1 ?side2 A3.out).mono ?_); (case side1 => repeat (first | (with_reducible first | exact HI0.out | apply IsS42.alloc | apply IsS42.drewN | apply IsS42.drew | apply IsS42.set_0 | apply IsS42.set_1 | apply IsS42.set_2 | apply IsS42.set_3 | apply IsS42.set_4 | apply IsS42.set_5) | exact HI0.out)); (case side2 => repeat (first | (with_reducible first | exact HB.out | apply below_alloc | apply pw_below_drewN | apply below_drew1 | refine below_set ?_ (IsS42.ge HI0.out)) | exact HB.out)); rintro e w14 ⟨rfl, hi, hb, hk⟩; refine ⟨_, rfl, ?_⟩; have n0_ := Aside0.mk (KeepBut.trans (by repeat (first | (with_reducible first | exact HK.out | apply KeepBut.set_ | apply keep_drewN | apply keep_drew | apply keep_alloc) | exact HK.out)) hk (.inl rfl)); have n1_ := Aside0.mk (hb); have n2_ := Aside0.mk (hi); clear HK; clear HB; clear HI0; have HK := n0_; have HB := n1_; have HI0 := n2_; clear n0_ n1_ n2_; (try clear hb); (try clear hb2); (try clear hk); (try clear hi); obtain ⟨HGz15, hgz15⟩ := HI0.out; have hcz15_0 := cellS42_0 HGz15; have hcz15_1 := cellS42_1 HGz15; have hcz15_2 := cellS42_2 HGz15; have hcz15_3 := cellS42_3 HGz15; have hcz15_4 := cellS42_4 HGz15; have hcz15_5 := cellS42_5 HGz15; have hfz15_0 := blk_frozen HGz15 0; have hfz15_1 := blk_frozen HGz15 1; have hfz15_2 := blk_frozen HGz15 2; have hfz15_3 := blk_frozen HGz15 3; have hfz15_4 := blk_frozen HGz15 4; have hfz15_5 := blk_frozen HGz15 5; clear HGz15 hgz15) | (go_at_call 17; (with_reducible refine (ping_Health_body.calls k g t113 t114 t115 t116 t117 false t119 t120 t121 t122 t123 t124 t125 w0 _ ?side1 ?side2 A8.out).mono ?_); (case side1 => repeat (first | (with_reducible first | exact HI0.out | apply IsS42.alloc | apply IsS42.drewN | apply IsS42.drew | apply IsS42.set_0 | apply IsS42.set_1 | apply IsS42.set_2 | apply IsS42.set_3 | apply IsS42.set_4 | apply IsS42.set_5) | exact HI0.out)); (case side2 => repeat (first | (with_reducible first | exact HB.out | apply below_alloc | apply pw_below_drewN | apply below_drew1 | refine below_set ?_ (IsS42.ge HI0.out)) | exact HB.out)); rintro e w16 ⟨rfl, hi, hb, hk⟩; have n0_ := Aside0.mk (KeepBut.trans (by repeat (first | (with_reducible first | exact HK.out | apply KeepBut.set_ | apply keep_drewN | apply keep_drew | apply keep_alloc) | exact HK.out)) hk (.inl rfl)); have n1_ := Aside0.mk (hb); have n2_ := Aside0.mk (hi); clear HK; clear HB; clear HI0; have HK := n0_; have HB := n1_; have HI0 := n2_; clear n0_ n1_ n2_; (try clear hb); (try clear hb2); (try clear hk); (try clear hi)))
        go_ret
        exact ⟨by first | rfl | (simp [errW_none, errW_some] <;> rfl) | (simp [*, errW_none, errW_some] <;> rfl), by repeat (first | (with_reducible first | exact HI0.out | apply IsS42.alloc | apply IsS42.drewN | apply IsS42.drew | apply IsS42.set_0 | apply IsS42.set_1 | apply IsS42.set_2 | apply IsS42.set_3 | apply IsS42.set_4 | apply IsS42.set_5) | exact HI0.out), by repeat (first | (with_reducible first | exact HB.out | apply below_alloc | apply pw_below_drewN | apply below_drew1 | refine below_set ?_ (IsS42.ge HI0.out)) | exact HB.out), by repeat (first | (with_reducible first | exact HK.out | apply KeepBut.set_ | apply keep_drewN | apply keep_drew | apply keep_alloc) | exact HK.out)⟩
  · replace c4 := Bool.eq_false_iff.mpr c4
    subst c4
    have H1 : (some (false, t113, t114, t115, t116, t117, t118)) = some (r1, r2, r3, r4, r5, r6, r7) := by rw [if_neg (show ¬ (false = true) by decide)] at H; exact H
    clear H
    have H := H1
    clear H1
    simp only [Option.some.injEq, Prod.mk.injEq] at H
    obtain ⟨rfl, rfl, rfl, rfl, rfl, rfl, rfl⟩ := H
    go_enter Try.func11, Try.ntmps11
    go_wp2_with (first | ((with_reducible refine gate_callee (f := 12) rfl ?_); refine goesL_ (some 6) rfl rfl Try.func12 (by kernel_rfl) rfl #[.pointer (some ⟨g, 0, none⟩)] rfl (by (try simp only [List.map_toArray, List.map_cons, List.map_nil]); first | done | rfl | (simp only [List.length_drop, List.length_take]; rfl)) ?_; (with_reducible refine (ping_Health_Waits.calls g s0_0 s0_1 s0_2 s0_3 s0_4 s0_5 false t113 t114 t115 t116 t117 t118 w0 _ ?side1 ?side2 A3.out).mono ?_); (case side1 => repeat (first | (with_reducible first | exact HI0.out | apply IsS42.alloc | apply IsS42.drewN | apply IsS42.drew | apply IsS42.set_0 | apply IsS42.set_1 | apply IsS42.set_2 | apply IsS42.set_3 | apply IsS42.set_4 | apply IsS42.set_5) | exact HI0.out)); (case side2 => repeat (first | (with_reducible first | exact HB.out | apply below_alloc | apply pw_below_drewN | apply below_drew1 | refine below_set ?_ (IsS42.ge HI0.out)) | exact HB.out)); rintro e w17 ⟨rfl, hi, hb, hk⟩; refine ⟨_, rfl, ?_⟩; have n0_ := Aside0.mk (KeepBut.trans (by repeat (first | (with_reducible first | exact HK.out | apply KeepBut.set_ | apply keep_drewN | apply keep_drew | apply keep_alloc) | exact HK.out)) hk (.inl rfl)); have n1_ := Aside0.mk (hb); have n2_ := Aside0.mk (hi); clear HK; clear HB; clear HI0; have HK := n0_; have HB := n1_; have HI0 := n2_; clear n0_ n1_ n2_; (try clear hb); (try clear hb2); (try clear hk); (try clear hi)))
    go_ret
    exact ⟨by first | rfl | (simp [errW_none, errW_some] <;> rfl) | (simp [*, errW_none, errW_some] <;> rfl), by repeat (first | (with_reducible first | exact HI0.out | apply IsS42.alloc | apply IsS42.drewN | apply IsS42.drew | apply IsS42.set_0 | apply IsS42.set_1 | apply IsS42.set_2 | apply IsS42.set_3 | apply IsS42.set_4 | apply IsS42.set_5) | exact HI0.out), by repeat (first | (with_reducible first | exact HB.out | apply below_alloc | apply pw_below_drewN | apply below_drew1 | refine below_set ?_ (IsS42.ge HI0.out)) | exact HB.out), by repeat (first | (with_reducible first | exact HK.out | apply KeepBut.set_ | apply keep_drewN | apply keep_drew | apply keep_alloc) | exact HK.out)⟩

/-! ### ping_Health_Sent: function 13 -/
def ping_Health_Sent.f (s0_0 : Int) (s0_1 : Int) (s0_2 : Int) (s0_3 : Int) (s0_4 : Bool) (s0_5 : Bool) : Option (Int × Int × Int × Int × Int × Bool × Bool) := some (s0_3, s0_0, s0_1, s0_2, s0_3, s0_4, s0_5)
set_option maxHeartbeats 8000000 in
set_option maxRecDepth 100000 in
theorem ping_Health_Sent.calls (g : Nat) (s0_0 : Int) (s0_1 : Int) (s0_2 : Int) (s0_3 : Int) (s0_4 : Bool) (s0_5 : Bool) (r1 : Int) (r2 : Int) (r3 : Int) (r4 : Int) (r5 : Int) (r6 : Bool) (r7 : Bool) (w0 w : World) (hI : IsS42 w0 w g s0_0 s0_1 s0_2 s0_3 s0_4 s0_5) (hB : Below w0.heap.size w0 w) (h : ping_Health_Sent.f s0_0 s0_1 s0_2 s0_3 s0_4 s0_5 = some (r1, r2, r3, r4, r5, r6, r7)) :
    Calls Try.prog 13 #[.pointer (some ⟨g, 0, none⟩)] w fun e w' => e = .returned (.int .i64 r1) ∧ IsS42 w0 w' g r2 r3 r4 r5 r6 r7 ∧ Below w0.heap.size w0 w' ∧ KeepBut w w' g none := by
  have HI0 := Aside0.mk hI
  have HK := Aside0.mk (KeepBut.refl w g none)
  have HL := Aside0.mk hB.size
  clear hI
  have HW0 := Aside0.mk hB.size
  have HB := Aside0.mk hB
  clear hB
  have H : (some (s0_3, s0_0, s0_1, s0_2, s0_3, s0_4, s0_5)) = some (r1, r2, r3, r4, r5, r6, r7) := h
  clear h
  simp only [Option.some.injEq, Prod.mk.injEq] at H
  obtain ⟨rfl, rfl, rfl, rfl, rfl, rfl, rfl⟩ := H
  obtain ⟨HGz2, hgz2⟩ := HI0.out
  have hcz2_0 := cellS42_0 HGz2
  have hcz2_1 := cellS42_1 HGz2
  have hcz2_2 := cellS42_2 HGz2
  have hcz2_3 := cellS42_3 HGz2
  have hcz2_4 := cellS42_4 HGz2
  have hcz2_5 := cellS42_5 HGz2
  have hfz2_0 := blk_frozen HGz2 0
  have hfz2_1 := blk_frozen HGz2 1
  have hfz2_2 := blk_frozen HGz2 2
  have hfz2_3 := blk_frozen HGz2 3
  have hfz2_4 := blk_frozen HGz2 4
  have hfz2_5 := blk_frozen HGz2 5
  clear HGz2 hgz2
  go_enter Try.func13, Try.ntmps13
  go_wp2
  go_ret
  exact ⟨by first | rfl | (simp [errW_none, errW_some] <;> rfl) | (simp [*, errW_none, errW_some] <;> rfl), by repeat (first | (with_reducible first | exact HI0.out | apply IsS42.alloc | apply IsS42.drewN | apply IsS42.drew | apply IsS42.set_0 | apply IsS42.set_1 | apply IsS42.set_2 | apply IsS42.set_3 | apply IsS42.set_4 | apply IsS42.set_5) | exact HI0.out), by repeat (first | (with_reducible first | exact HB.out | apply below_alloc | apply pw_below_drewN | apply below_drew1 | refine below_set ?_ (IsS42.ge HI0.out)) | exact HB.out), by repeat (first | (with_reducible first | exact HK.out | apply KeepBut.set_ | apply keep_drewN | apply keep_drew | apply keep_alloc) | exact HK.out)⟩

/-! ### bywashlaw17_alive: function 8 -/
def bywashlaw17_alive.f (k : Nat)  : Option (Bool) := (ping_New.f 1 2).bind fun bt126 => ((ping_Health_Tick.f k bt126.1 bt126.2.1 bt126.2.2.1 bt126.2.2.2.1 bt126.2.2.2.2.1 bt126.2.2.2.2.2).bind fun bt133 => (if bt133.1.toList = ([0, 0, 0, 0, 0, 0, 0, 1] : List UInt8) then (if bt133.2.1 = true then (some false) else ((ping_Health_Waits.f bt133.2.2.1 bt133.2.2.2.1 bt133.2.2.2.2.1 bt133.2.2.2.2.2.1 bt133.2.2.2.2.2.2.1 bt133.2.2.2.2.2.2.2).bind fun bt141 => (if bt141.1 = true then ((ping_Health_Got.f k bt141.2.1 bt141.2.2.1 bt141.2.2.2.1 bt141.2.2.2.2.1 bt141.2.2.2.2.2.1 bt141.2.2.2.2.2.2 bt133.1).bind fun bt148 => (if bt148.1 = true then ((ping_Health_Waits.f bt148.2.1 bt148.2.2.1 bt148.2.2.2.1 bt148.2.2.2.2.1 bt148.2.2.2.2.2.1 bt148.2.2.2.2.2.2).bind fun bt155 => (if bt155.1 = true then (some false) else ((ping_Health_Sent.f bt155.2.1 bt155.2.2.1 bt155.2.2.2.1 bt155.2.2.2.2.1 bt155.2.2.2.2.2.1 bt155.2.2.2.2.2.2).bind fun bt162 => (some (bt162.1 == 1))))) else (some false))) else (some false)))) else (some false)))
theorem bywashlaw17_alive.mono : ∀ k, LeO (bywashlaw17_alive.f k ) (bywashlaw17_alive.f (k + 1) ) := by
  intro  k
  unfold bywashlaw17_alive.f
  repeat' first
      | (with_reducible exact ping_Health_Got.mono _ _ _ _ _ _ _ _)
      | (with_reducible exact ping_Health_Tick.mono _ _ _ _ _ _ _)
      | (with_reducible exact LeO.refl _)
      | (with_reducible exact LeO.none _)
      | (with_reducible refine LeO.ite ?_ ?_)
      | (with_reducible refine LeO.bind ?_ (fun _ => ?_))
      | exact ping_Health_Got.mono _ _ _ _ _ _ _ _
      | exact ping_Health_Tick.mono _ _ _ _ _ _ _
      | exact LeO.none _
      | refine LeO.ite ?_ ?_
      | refine LeO.bind ?_ (fun _ => ?_)
set_option maxHeartbeats 8000000 in
set_option maxRecDepth 100000 in
theorem bywashlaw17_alive.calls (k : Nat)  (r : Bool) (w : World) (h : bywashlaw17_alive.f k  = some r) :
    Calls Try.prog 8 #[] w fun e w' => e = .returned (.bool r) ∧ Below w.heap.size w w' := by
  have HB := Aside0.mk (Below.refl w.heap.size w)
  have H : ((ping_New.f 1 2).bind fun bt126 => ((ping_Health_Tick.f k bt126.1 bt126.2.1 bt126.2.2.1 bt126.2.2.2.1 bt126.2.2.2.2.1 bt126.2.2.2.2.2).bind fun bt133 => (if bt133.1.toList = ([0, 0, 0, 0, 0, 0, 0, 1] : List UInt8) then (if bt133.2.1 = true then (some false) else ((ping_Health_Waits.f bt133.2.2.1 bt133.2.2.2.1 bt133.2.2.2.2.1 bt133.2.2.2.2.2.1 bt133.2.2.2.2.2.2.1 bt133.2.2.2.2.2.2.2).bind fun bt141 => (if bt141.1 = true then ((ping_Health_Got.f k bt141.2.1 bt141.2.2.1 bt141.2.2.2.1 bt141.2.2.2.2.1 bt141.2.2.2.2.2.1 bt141.2.2.2.2.2.2 bt133.1).bind fun bt148 => (if bt148.1 = true then ((ping_Health_Waits.f bt148.2.1 bt148.2.2.1 bt148.2.2.2.1 bt148.2.2.2.2.1 bt148.2.2.2.2.2.1 bt148.2.2.2.2.2.2).bind fun bt155 => (if bt155.1 = true then (some false) else ((ping_Health_Sent.f bt155.2.1 bt155.2.2.1 bt155.2.2.2.1 bt155.2.2.2.2.1 bt155.2.2.2.2.2.1 bt155.2.2.2.2.2.2).bind fun bt162 => (some (bt162.1 == 1))))) else (some false))) else (some false)))) else (some false)))) = some r := h
  clear h
  replace H := Option.bind_eq_some_iff.mp H
  obtain ⟨⟨t126, t127, t128, t129, t130, t131⟩, A10, H⟩ := H
  replace H : ((ping_Health_Tick.f k t126 t127 t128 t129 t130 t131).bind fun bt133 => (if bt133.1.toList = ([0, 0, 0, 0, 0, 0, 0, 1] : List UInt8) then (if bt133.2.1 = true then (some false) else ((ping_Health_Waits.f bt133.2.2.1 bt133.2.2.2.1 bt133.2.2.2.2.1 bt133.2.2.2.2.2.1 bt133.2.2.2.2.2.2.1 bt133.2.2.2.2.2.2.2).bind fun bt141 => (if bt141.1 = true then ((ping_Health_Got.f k bt141.2.1 bt141.2.2.1 bt141.2.2.2.1 bt141.2.2.2.2.1 bt141.2.2.2.2.2.1 bt141.2.2.2.2.2.2 bt133.1).bind fun bt148 => (if bt148.1 = true then ((ping_Health_Waits.f bt148.2.1 bt148.2.2.1 bt148.2.2.2.1 bt148.2.2.2.2.1 bt148.2.2.2.2.2.1 bt148.2.2.2.2.2.2).bind fun bt155 => (if bt155.1 = true then (some false) else ((ping_Health_Sent.f bt155.2.1 bt155.2.2.1 bt155.2.2.2.1 bt155.2.2.2.2.1 bt155.2.2.2.2.2.1 bt155.2.2.2.2.2.2).bind fun bt162 => (some (bt162.1 == 1))))) else (some false))) else (some false)))) else (some false))) = some r := H
  have A1 := Aside0.mk A10
  clear A10
  replace H := Option.bind_eq_some_iff.mp H
  obtain ⟨⟨t133, t134, t135, t136, t137, t138, t139, t140⟩, A20, H⟩ := H
  replace H : (if t133.toList = ([0, 0, 0, 0, 0, 0, 0, 1] : List UInt8) then (if t134 = true then (some false) else ((ping_Health_Waits.f t135 t136 t137 t138 t139 t140).bind fun bt141 => (if bt141.1 = true then ((ping_Health_Got.f k bt141.2.1 bt141.2.2.1 bt141.2.2.2.1 bt141.2.2.2.2.1 bt141.2.2.2.2.2.1 bt141.2.2.2.2.2.2 t133).bind fun bt148 => (if bt148.1 = true then ((ping_Health_Waits.f bt148.2.1 bt148.2.2.1 bt148.2.2.2.1 bt148.2.2.2.2.1 bt148.2.2.2.2.2.1 bt148.2.2.2.2.2.2).bind fun bt155 => (if bt155.1 = true then (some false) else ((ping_Health_Sent.f bt155.2.1 bt155.2.2.1 bt155.2.2.2.1 bt155.2.2.2.2.1 bt155.2.2.2.2.2.1 bt155.2.2.2.2.2.2).bind fun bt162 => (some (bt162.1 == 1))))) else (some false))) else (some false)))) else (some false)) = some r := H
  have A2 := Aside0.mk A20
  clear A20
  by_cases c3 : t133.toList = ([0, 0, 0, 0, 0, 0, 0, 1] : List UInt8)
  · rw [if_pos c3] at H
    have c3b0 : (t133.toList == ([0, 0, 0, 0, 0, 0, 0, 1] : List UInt8)) = true := beq_iff_eq.mpr c3
    have c3b1 : (t133.toList != ([0, 0, 0, 0, 0, 0, 0, 1] : List UInt8)) = false := bne_eq_false_iff_eq.mpr c3
    clear c3
    by_cases c4 : t134 = true
    · subst c4
      have H1 : (some false) = some r := by rw [if_pos rfl] at H; exact H
      clear H
      have H := H1
      clear H1
      obtain rfl := Option.some.inj H
      go_enter Try.func8, Try.ntmps8
      go_wp2_with (first | ((with_reducible refine gate_callee (f := 9) rfl ?_); refine goesL_ (some 4) rfl rfl Try.func9 (by kernel_rfl) rfl #[.int .i64 1, .int .i64 2] rfl (by (try simp only [List.map_toArray, List.map_cons, List.map_nil]); first | done | rfl | (simp only [List.length_drop, List.length_take]; rfl)) ?_; (with_reducible refine (ping_New.calls 1 2 t126 t127 t128 t129 t130 t131 w _ ?side1 A1.out).mono ?_); (case side1 => repeat (first | (with_reducible first | exact HB.out | apply below_alloc | apply pw_below_drewN | apply below_drew1) | exact HB.out)); rintro e w5 ⟨g132, rfl, hi, hb, hb2⟩; refine ⟨_, rfl, ?_⟩; have n0_ := Aside0.mk (hb); have n1_ := Aside0.mk (hi); clear HB; have HB := n0_; have HI132 := n1_; clear n0_ n1_; (try clear hb); (try clear hb2); (try clear hk); (try clear hi)) | ((with_reducible refine gate_callee (f := 10) rfl ?_); refine goesL_ (some 9) rfl rfl Try.func10 (by kernel_rfl) rfl #[.pointer (some ⟨g132, 0, none⟩)] rfl (by (try simp only [List.map_toArray, List.map_cons, List.map_nil]); first | done | rfl | (simp only [List.length_drop, List.length_take]; rfl)) ?_; (with_reducible refine (ping_Health_Tick.calls k g132 t126 t127 t128 t129 t130 t131 t133 true t135 t136 t137 t138 t139 t140 w _ ?side1 ?side2 A2.out).mono ?_); (case side1 => repeat (first | (with_reducible first | exact HI132.out | apply IsS42.alloc | apply IsS42.drewN | apply IsS42.drew | apply IsS42.set_0 | apply IsS42.set_1 | apply IsS42.set_2 | apply IsS42.set_3 | apply IsS42.set_4 | apply IsS42.set_5) | exact HI132.out)); (case side2 => repeat (first | (with_reducible first | exact HB.out | apply below_alloc | apply pw_below_drewN | apply below_drew1 | refine below_set ?_ (IsS42.ge HI132.out)) | exact HB.out)); rintro e w6 ⟨rfl, hi, hb, hk⟩; refine ⟨_, rfl, ?_⟩; have n0_ := Aside0.mk (hb); have n1_ := Aside0.mk (hi); clear HB; clear HI132; have HB := n0_; have HI132 := n1_; clear n0_ n1_; (try clear hb); (try clear hb2); (try clear hk); (try clear hi)))
      go_ret
      exact ⟨by first | rfl | (simp [errW_none, errW_some] <;> rfl) | (simp [*, errW_none, errW_some] <;> rfl), by repeat (first | (with_reducible first | exact HB.out | apply below_alloc | apply pw_below_drewN | apply below_drew1 | refine below_set ?_ (IsS42.ge HI132.out)) | exact HB.out)⟩
    · replace c4 := Bool.eq_false_iff.mpr c4
      subst c4
      have H1 : ((ping_Health_Waits.f t135 t136 t137 t138 t139 t140).bind fun bt141 => (if bt141.1 = true then ((ping_Health_Got.f k bt141.2.1 bt141.2.2.1 bt141.2.2.2.1 bt141.2.2.2.2.1 bt141.2.2.2.2.2.1 bt141.2.2.2.2.2.2 t133).bind fun bt148 => (if bt148.1 = true then ((ping_Health_Waits.f bt148.2.1 bt148.2.2.1 bt148.2.2.2.1 bt148.2.2.2.2.1 bt148.2.2.2.2.2.1 bt148.2.2.2.2.2.2).bind fun bt155 => (if bt155.1 = true then (some false) else ((ping_Health_Sent.f bt155.2.1 bt155.2.2.1 bt155.2.2.2.1 bt155.2.2.2.2.1 bt155.2.2.2.2.2.1 bt155.2.2.2.2.2.2).bind fun bt162 => (some (bt162.1 == 1))))) else (some false))) else (some false))) = some r := by rw [if_neg (show ¬ (false = true) by decide)] at H; exact H
      clear H
      have H := H1
      clear H1
      replace H := Option.bind_eq_some_iff.mp H
      obtain ⟨⟨t141, t142, t143, t144, t145, t146, t147⟩, A70, H⟩ := H
      replace H : (if t141 = true then ((ping_Health_Got.f k t142 t143 t144 t145 t146 t147 t133).bind fun bt148 => (if bt148.1 = true then ((ping_Health_Waits.f bt148.2.1 bt148.2.2.1 bt148.2.2.2.1 bt148.2.2.2.2.1 bt148.2.2.2.2.2.1 bt148.2.2.2.2.2.2).bind fun bt155 => (if bt155.1 = true then (some false) else ((ping_Health_Sent.f bt155.2.1 bt155.2.2.1 bt155.2.2.2.1 bt155.2.2.2.2.1 bt155.2.2.2.2.2.1 bt155.2.2.2.2.2.2).bind fun bt162 => (some (bt162.1 == 1))))) else (some false))) else (some false)) = some r := H
      have A7 := Aside0.mk A70
      clear A70
      by_cases c8 : t141 = true
      · subst c8
        have H1 : ((ping_Health_Got.f k t142 t143 t144 t145 t146 t147 t133).bind fun bt148 => (if bt148.1 = true then ((ping_Health_Waits.f bt148.2.1 bt148.2.2.1 bt148.2.2.2.1 bt148.2.2.2.2.1 bt148.2.2.2.2.2.1 bt148.2.2.2.2.2.2).bind fun bt155 => (if bt155.1 = true then (some false) else ((ping_Health_Sent.f bt155.2.1 bt155.2.2.1 bt155.2.2.2.1 bt155.2.2.2.2.1 bt155.2.2.2.2.2.1 bt155.2.2.2.2.2.2).bind fun bt162 => (some (bt162.1 == 1))))) else (some false))) = some r := by rw [if_pos rfl] at H; exact H
        clear H
        have H := H1
        clear H1
        replace H := Option.bind_eq_some_iff.mp H
        obtain ⟨⟨t148, t149, t150, t151, t152, t153, t154⟩, A90, H⟩ := H
        replace H : (if t148 = true then ((ping_Health_Waits.f t149 t150 t151 t152 t153 t154).bind fun bt155 => (if bt155.1 = true then (some false) else ((ping_Health_Sent.f bt155.2.1 bt155.2.2.1 bt155.2.2.2.1 bt155.2.2.2.2.1 bt155.2.2.2.2.2.1 bt155.2.2.2.2.2.2).bind fun bt162 => (some (bt162.1 == 1))))) else (some false)) = some r := H
        have A9 := Aside0.mk A90
        clear A90
        by_cases c10 : t148 = true
        · subst c10
          have H1 : ((ping_Health_Waits.f t149 t150 t151 t152 t153 t154).bind fun bt155 => (if bt155.1 = true then (some false) else ((ping_Health_Sent.f bt155.2.1 bt155.2.2.1 bt155.2.2.2.1 bt155.2.2.2.2.1 bt155.2.2.2.2.2.1 bt155.2.2.2.2.2.2).bind fun bt162 => (some (bt162.1 == 1))))) = some r := by rw [if_pos rfl] at H; exact H
          clear H
          have H := H1
          clear H1
          replace H := Option.bind_eq_some_iff.mp H
          obtain ⟨⟨t155, t156, t157, t158, t159, t160, t161⟩, A110, H⟩ := H
          replace H : (if t155 = true then (some false) else ((ping_Health_Sent.f t156 t157 t158 t159 t160 t161).bind fun bt162 => (some (bt162.1 == 1)))) = some r := H
          have A11 := Aside0.mk A110
          clear A110
          by_cases c12 : t155 = true
          · subst c12
            have H1 : (some false) = some r := by rw [if_pos rfl] at H; exact H
            clear H
            have H := H1
            clear H1
            obtain rfl := Option.some.inj H
            go_enter Try.func8, Try.ntmps8
            go_wp2_with (first | ((with_reducible refine gate_callee (f := 9) rfl ?_); refine goesL_ (some 4) rfl rfl Try.func9 (by kernel_rfl) rfl #[.int .i64 1, .int .i64 2] rfl (by (try simp only [List.map_toArray, List.map_cons, List.map_nil]); first | done | rfl | (simp only [List.length_drop, List.length_take]; rfl)) ?_; (with_reducible refine (ping_New.calls 1 2 t126 t127 t128 t129 t130 t131 w _ ?side1 A1.out).mono ?_); (case side1 => repeat (first | (with_reducible first | exact HB.out | apply below_alloc | apply pw_below_drewN | apply below_drew1) | exact HB.out)); rintro e w13 ⟨g132, rfl, hi, hb, hb2⟩; refine ⟨_, rfl, ?_⟩; have n0_ := Aside0.mk (hb); have n1_ := Aside0.mk (hi); clear HB; have HB := n0_; have HI132 := n1_; clear n0_ n1_; (try clear hb); (try clear hb2); (try clear hk); (try clear hi)) | ((with_reducible refine gate_callee (f := 10) rfl ?_); refine goesL_ (some 9) rfl rfl Try.func10 (by kernel_rfl) rfl #[.pointer (some ⟨g132, 0, none⟩)] rfl (by (try simp only [List.map_toArray, List.map_cons, List.map_nil]); first | done | rfl | (simp only [List.length_drop, List.length_take]; rfl)) ?_; (with_reducible refine (ping_Health_Tick.calls k g132 t126 t127 t128 t129 t130 t131 t133 false t135 t136 t137 t138 t139 t140 w _ ?side1 ?side2 A2.out).mono ?_); (case side1 => repeat (first | (with_reducible first | exact HI132.out | apply IsS42.alloc | apply IsS42.drewN | apply IsS42.drew | apply IsS42.set_0 | apply IsS42.set_1 | apply IsS42.set_2 | apply IsS42.set_3 | apply IsS42.set_4 | apply IsS42.set_5) | exact HI132.out)); (case side2 => repeat (first | (with_reducible first | exact HB.out | apply below_alloc | apply pw_below_drewN | apply below_drew1 | refine below_set ?_ (IsS42.ge HI132.out)) | exact HB.out)); rintro e w14 ⟨rfl, hi, hb, hk⟩; refine ⟨_, rfl, ?_⟩; have n0_ := Aside0.mk (hb); have n1_ := Aside0.mk (hi); clear HB; clear HI132; have HB := n0_; have HI132 := n1_; clear n0_ n1_; (try clear hb); (try clear hb2); (try clear hk); (try clear hi)) | (go_at_call 12; (with_reducible refine (ping_Health_Waits.calls g132 t135 t136 t137 t138 t139 t140 true t142 t143 t144 t145 t146 t147 w _ ?side1 ?side2 A7.out).mono ?_); (case side1 => repeat (first | (with_reducible first | exact HI132.out | apply IsS42.alloc | apply IsS42.drewN | apply IsS42.drew | apply IsS42.set_0 | apply IsS42.set_1 | apply IsS42.set_2 | apply IsS42.set_3 | apply IsS42.set_4 | apply IsS42.set_5) | exact HI132.out)); (case side2 => repeat (first | (with_reducible first | exact HB.out | apply below_alloc | apply pw_below_drewN | apply below_drew1 | refine below_set ?_ (IsS42.ge HI132.out)) | exact HB.out)); rintro e w15 ⟨rfl, hi, hb, hk⟩; have n0_ := Aside0.mk (hb); have n1_ := Aside0.mk (hi); clear HB; clear HI132; have HB := n0_; have HI132 := n1_; clear n0_ n1_; (try clear hb); (try clear hb2); (try clear hk); (try clear hi)) | (go_at_call 11; (with_reducible refine (ping_Health_Got.calls k g132 t142 t143 t144 t145 t146 t147 t133 true t149 t150 t151 t152 t153 t154 w _ ?side1 ?side2 A9.out).mono ?_); (case side1 => repeat (first | (with_reducible first | exact HI132.out | apply IsS42.alloc | apply IsS42.drewN | apply IsS42.drew | apply IsS42.set_0 | apply IsS42.set_1 | apply IsS42.set_2 | apply IsS42.set_3 | apply IsS42.set_4 | apply IsS42.set_5) | exact HI132.out)); (case side2 => repeat (first | (with_reducible first | exact HB.out | apply below_alloc | apply pw_below_drewN | apply below_drew1 | refine below_set ?_ (IsS42.ge HI132.out)) | exact HB.out)); rintro e w16 ⟨rfl, hi, hb, hk⟩; have n0_ := Aside0.mk (hb); have n1_ := Aside0.mk (hi); clear HB; clear HI132; have HB := n0_; have HI132 := n1_; clear n0_ n1_; (try clear hb); (try clear hb2); (try clear hk); (try clear hi)) | (go_at_call 12; (with_reducible refine (ping_Health_Waits.calls g132 t149 t150 t151 t152 t153 t154 true t156 t157 t158 t159 t160 t161 w _ ?side1 ?side2 A11.out).mono ?_); (case side1 => repeat (first | (with_reducible first | exact HI132.out | apply IsS42.alloc | apply IsS42.drewN | apply IsS42.drew | apply IsS42.set_0 | apply IsS42.set_1 | apply IsS42.set_2 | apply IsS42.set_3 | apply IsS42.set_4 | apply IsS42.set_5) | exact HI132.out)); (case side2 => repeat (first | (with_reducible first | exact HB.out | apply below_alloc | apply pw_below_drewN | apply below_drew1 | refine below_set ?_ (IsS42.ge HI132.out)) | exact HB.out)); rintro e w17 ⟨rfl, hi, hb, hk⟩; have n0_ := Aside0.mk (hb); have n1_ := Aside0.mk (hi); clear HB; clear HI132; have HB := n0_; have HI132 := n1_; clear n0_ n1_; (try clear hb); (try clear hb2); (try clear hk); (try clear hi)))
            go_ret
            exact ⟨by first | rfl | (simp [errW_none, errW_some] <;> rfl) | (simp [*, errW_none, errW_some] <;> rfl), by repeat (first | (with_reducible first | exact HB.out | apply below_alloc | apply pw_below_drewN | apply below_drew1 | refine below_set ?_ (IsS42.ge HI132.out)) | exact HB.out)⟩
          · replace c12 := Bool.eq_false_iff.mpr c12
            subst c12
            have H1 : ((ping_Health_Sent.f t156 t157 t158 t159 t160 t161).bind fun bt162 => (some (bt162.1 == 1))) = some r := by rw [if_neg (show ¬ (false = true) by decide)] at H; exact H
            clear H
            have H := H1
            clear H1
            replace H := Option.bind_eq_some_iff.mp H
            obtain ⟨⟨t162, t163, t164, t165, t166, t167, t168⟩, A180, H⟩ := H
            replace H : (some (t162 == 1)) = some r := H
            have A18 := Aside0.mk A180
            clear A180
            obtain rfl := Option.some.inj H
            go_enter Try.func8, Try.ntmps8
            go_wp2_with (first | ((with_reducible refine gate_callee (f := 9) rfl ?_); refine goesL_ (some 4) rfl rfl Try.func9 (by kernel_rfl) rfl #[.int .i64 1, .int .i64 2] rfl (by (try simp only [List.map_toArray, List.map_cons, List.map_nil]); first | done | rfl | (simp only [List.length_drop, List.length_take]; rfl)) ?_; (with_reducible refine (ping_New.calls 1 2 t126 t127 t128 t129 t130 t131 w _ ?side1 A1.out).mono ?_); (case side1 => repeat (first | (with_reducible first | exact HB.out | apply below_alloc | apply pw_below_drewN | apply below_drew1) | exact HB.out)); rintro e w19 ⟨g132, rfl, hi, hb, hb2⟩; refine ⟨_, rfl, ?_⟩; have n0_ := Aside0.mk (hb); have n1_ := Aside0.mk (hi); clear HB; have HB := n0_; have HI132 := n1_; clear n0_ n1_; (try clear hb); (try clear hb2); (try clear hk); (try clear hi)) | ((with_reducible refine gate_callee (f := 10) rfl ?_); refine goesL_ (some 9) rfl rfl Try.func10 (by kernel_rfl) rfl #[.pointer (some ⟨g132, 0, none⟩)] rfl (by (try simp only [List.map_toArray, List.map_cons, List.map_nil]); first | done | rfl | (simp only [List.length_drop, List.length_take]; rfl)) ?_; (with_reducible refine (ping_Health_Tick.calls k g132 t126 t127 t128 t129 t130 t131 t133 false t135 t136 t137 t138 t139 t140 w _ ?side1 ?side2 A2.out).mono ?_); (case side1 => repeat (first | (with_reducible first | exact HI132.out | apply IsS42.alloc | apply IsS42.drewN | apply IsS42.drew | apply IsS42.set_0 | apply IsS42.set_1 | apply IsS42.set_2 | apply IsS42.set_3 | apply IsS42.set_4 | apply IsS42.set_5) | exact HI132.out)); (case side2 => repeat (first | (with_reducible first | exact HB.out | apply below_alloc | apply pw_below_drewN | apply below_drew1 | refine below_set ?_ (IsS42.ge HI132.out)) | exact HB.out)); rintro e w20 ⟨rfl, hi, hb, hk⟩; refine ⟨_, rfl, ?_⟩; have n0_ := Aside0.mk (hb); have n1_ := Aside0.mk (hi); clear HB; clear HI132; have HB := n0_; have HI132 := n1_; clear n0_ n1_; (try clear hb); (try clear hb2); (try clear hk); (try clear hi)) | (go_at_call 12; (with_reducible refine (ping_Health_Waits.calls g132 t135 t136 t137 t138 t139 t140 true t142 t143 t144 t145 t146 t147 w _ ?side1 ?side2 A7.out).mono ?_); (case side1 => repeat (first | (with_reducible first | exact HI132.out | apply IsS42.alloc | apply IsS42.drewN | apply IsS42.drew | apply IsS42.set_0 | apply IsS42.set_1 | apply IsS42.set_2 | apply IsS42.set_3 | apply IsS42.set_4 | apply IsS42.set_5) | exact HI132.out)); (case side2 => repeat (first | (with_reducible first | exact HB.out | apply below_alloc | apply pw_below_drewN | apply below_drew1 | refine below_set ?_ (IsS42.ge HI132.out)) | exact HB.out)); rintro e w21 ⟨rfl, hi, hb, hk⟩; have n0_ := Aside0.mk (hb); have n1_ := Aside0.mk (hi); clear HB; clear HI132; have HB := n0_; have HI132 := n1_; clear n0_ n1_; (try clear hb); (try clear hb2); (try clear hk); (try clear hi)) | (go_at_call 11; (with_reducible refine (ping_Health_Got.calls k g132 t142 t143 t144 t145 t146 t147 t133 true t149 t150 t151 t152 t153 t154 w _ ?side1 ?side2 A9.out).mono ?_); (case side1 => repeat (first | (with_reducible first | exact HI132.out | apply IsS42.alloc | apply IsS42.drewN | apply IsS42.drew | apply IsS42.set_0 | apply IsS42.set_1 | apply IsS42.set_2 | apply IsS42.set_3 | apply IsS42.set_4 | apply IsS42.set_5) | exact HI132.out)); (case side2 => repeat (first | (with_reducible first | exact HB.out | apply below_alloc | apply pw_below_drewN | apply below_drew1 | refine below_set ?_ (IsS42.ge HI132.out)) | exact HB.out)); rintro e w22 ⟨rfl, hi, hb, hk⟩; have n0_ := Aside0.mk (hb); have n1_ := Aside0.mk (hi); clear HB; clear HI132; have HB := n0_; have HI132 := n1_; clear n0_ n1_; (try clear hb); (try clear hb2); (try clear hk); (try clear hi)) | (go_at_call 12; (with_reducible refine (ping_Health_Waits.calls g132 t149 t150 t151 t152 t153 t154 false t156 t157 t158 t159 t160 t161 w _ ?side1 ?side2 A11.out).mono ?_); (case side1 => repeat (first | (with_reducible first | exact HI132.out | apply IsS42.alloc | apply IsS42.drewN | apply IsS42.drew | apply IsS42.set_0 | apply IsS42.set_1 | apply IsS42.set_2 | apply IsS42.set_3 | apply IsS42.set_4 | apply IsS42.set_5) | exact HI132.out)); (case side2 => repeat (first | (with_reducible first | exact HB.out | apply below_alloc | apply pw_below_drewN | apply below_drew1 | refine below_set ?_ (IsS42.ge HI132.out)) | exact HB.out)); rintro e w23 ⟨rfl, hi, hb, hk⟩; have n0_ := Aside0.mk (hb); have n1_ := Aside0.mk (hi); clear HB; clear HI132; have HB := n0_; have HI132 := n1_; clear n0_ n1_; (try clear hb); (try clear hb2); (try clear hk); (try clear hi)) | (go_at_call 13; (with_reducible refine (ping_Health_Sent.calls g132 t156 t157 t158 t159 t160 t161 t162 t163 t164 t165 t166 t167 t168 w _ ?side1 ?side2 A18.out).mono ?_); (case side1 => repeat (first | (with_reducible first | exact HI132.out | apply IsS42.alloc | apply IsS42.drewN | apply IsS42.drew | apply IsS42.set_0 | apply IsS42.set_1 | apply IsS42.set_2 | apply IsS42.set_3 | apply IsS42.set_4 | apply IsS42.set_5) | exact HI132.out)); (case side2 => repeat (first | (with_reducible first | exact HB.out | apply below_alloc | apply pw_below_drewN | apply below_drew1 | refine below_set ?_ (IsS42.ge HI132.out)) | exact HB.out)); rintro e w24 ⟨rfl, hi, hb, hk⟩; have n0_ := Aside0.mk (hb); have n1_ := Aside0.mk (hi); clear HB; clear HI132; have HB := n0_; have HI132 := n1_; clear n0_ n1_; (try clear hb); (try clear hb2); (try clear hk); (try clear hi)))
            go_ret
            exact ⟨by first | rfl | (simp [errW_none, errW_some] <;> rfl) | (simp [*, errW_none, errW_some] <;> rfl), by repeat (first | (with_reducible first | exact HB.out | apply below_alloc | apply pw_below_drewN | apply below_drew1 | refine below_set ?_ (IsS42.ge HI132.out)) | exact HB.out)⟩
        · replace c10 := Bool.eq_false_iff.mpr c10
          subst c10
          have H1 : (some false) = some r := by rw [if_neg (show ¬ (false = true) by decide)] at H; exact H
          clear H
          have H := H1
          clear H1
          obtain rfl := Option.some.inj H
          go_enter Try.func8, Try.ntmps8
          go_wp2_with (first | ((with_reducible refine gate_callee (f := 9) rfl ?_); refine goesL_ (some 4) rfl rfl Try.func9 (by kernel_rfl) rfl #[.int .i64 1, .int .i64 2] rfl (by (try simp only [List.map_toArray, List.map_cons, List.map_nil]); first | done | rfl | (simp only [List.length_drop, List.length_take]; rfl)) ?_; (with_reducible refine (ping_New.calls 1 2 t126 t127 t128 t129 t130 t131 w _ ?side1 A1.out).mono ?_); (case side1 => repeat (first | (with_reducible first | exact HB.out | apply below_alloc | apply pw_below_drewN | apply below_drew1) | exact HB.out)); rintro e w25 ⟨g132, rfl, hi, hb, hb2⟩; refine ⟨_, rfl, ?_⟩; have n0_ := Aside0.mk (hb); have n1_ := Aside0.mk (hi); clear HB; have HB := n0_; have HI132 := n1_; clear n0_ n1_; (try clear hb); (try clear hb2); (try clear hk); (try clear hi)) | ((with_reducible refine gate_callee (f := 10) rfl ?_); refine goesL_ (some 9) rfl rfl Try.func10 (by kernel_rfl) rfl #[.pointer (some ⟨g132, 0, none⟩)] rfl (by (try simp only [List.map_toArray, List.map_cons, List.map_nil]); first | done | rfl | (simp only [List.length_drop, List.length_take]; rfl)) ?_; (with_reducible refine (ping_Health_Tick.calls k g132 t126 t127 t128 t129 t130 t131 t133 false t135 t136 t137 t138 t139 t140 w _ ?side1 ?side2 A2.out).mono ?_); (case side1 => repeat (first | (with_reducible first | exact HI132.out | apply IsS42.alloc | apply IsS42.drewN | apply IsS42.drew | apply IsS42.set_0 | apply IsS42.set_1 | apply IsS42.set_2 | apply IsS42.set_3 | apply IsS42.set_4 | apply IsS42.set_5) | exact HI132.out)); (case side2 => repeat (first | (with_reducible first | exact HB.out | apply below_alloc | apply pw_below_drewN | apply below_drew1 | refine below_set ?_ (IsS42.ge HI132.out)) | exact HB.out)); rintro e w26 ⟨rfl, hi, hb, hk⟩; refine ⟨_, rfl, ?_⟩; have n0_ := Aside0.mk (hb); have n1_ := Aside0.mk (hi); clear HB; clear HI132; have HB := n0_; have HI132 := n1_; clear n0_ n1_; (try clear hb); (try clear hb2); (try clear hk); (try clear hi)) | (go_at_call 12; (with_reducible refine (ping_Health_Waits.calls g132 t135 t136 t137 t138 t139 t140 true t142 t143 t144 t145 t146 t147 w _ ?side1 ?side2 A7.out).mono ?_); (case side1 => repeat (first | (with_reducible first | exact HI132.out | apply IsS42.alloc | apply IsS42.drewN | apply IsS42.drew | apply IsS42.set_0 | apply IsS42.set_1 | apply IsS42.set_2 | apply IsS42.set_3 | apply IsS42.set_4 | apply IsS42.set_5) | exact HI132.out)); (case side2 => repeat (first | (with_reducible first | exact HB.out | apply below_alloc | apply pw_below_drewN | apply below_drew1 | refine below_set ?_ (IsS42.ge HI132.out)) | exact HB.out)); rintro e w27 ⟨rfl, hi, hb, hk⟩; have n0_ := Aside0.mk (hb); have n1_ := Aside0.mk (hi); clear HB; clear HI132; have HB := n0_; have HI132 := n1_; clear n0_ n1_; (try clear hb); (try clear hb2); (try clear hk); (try clear hi)) | (go_at_call 11; (with_reducible refine (ping_Health_Got.calls k g132 t142 t143 t144 t145 t146 t147 t133 false t149 t150 t151 t152 t153 t154 w _ ?side1 ?side2 A9.out).mono ?_); (case side1 => repeat (first | (with_reducible first | exact HI132.out | apply IsS42.alloc | apply IsS42.drewN | apply IsS42.drew | apply IsS42.set_0 | apply IsS42.set_1 | apply IsS42.set_2 | apply IsS42.set_3 | apply IsS42.set_4 | apply IsS42.set_5) | exact HI132.out)); (case side2 => repeat (first | (with_reducible first | exact HB.out | apply below_alloc | apply pw_below_drewN | apply below_drew1 | refine below_set ?_ (IsS42.ge HI132.out)) | exact HB.out)); rintro e w28 ⟨rfl, hi, hb, hk⟩; have n0_ := Aside0.mk (hb); have n1_ := Aside0.mk (hi); clear HB; clear HI132; have HB := n0_; have HI132 := n1_; clear n0_ n1_; (try clear hb); (try clear hb2); (try clear hk); (try clear hi)))
          go_ret
          exact ⟨by first | rfl | (simp [errW_none, errW_some] <;> rfl) | (simp [*, errW_none, errW_some] <;> rfl), by repeat (first | (with_reducible first | exact HB.out | apply below_alloc | apply pw_below_drewN | apply below_drew1 | refine below_set ?_ (IsS42.ge HI132.out)) | exact HB.out)⟩
      · replace c8 := Bool.eq_false_iff.mpr c8
        subst c8
        have H1 : (some false) = some r := by rw [if_neg (show ¬ (false = true) by decide)] at H; exact H
        clear H
        have H := H1
        clear H1
        obtain rfl := Option.some.inj H
        go_enter Try.func8, Try.ntmps8
        go_wp2_with (first | ((with_reducible refine gate_callee (f := 9) rfl ?_); refine goesL_ (some 4) rfl rfl Try.func9 (by kernel_rfl) rfl #[.int .i64 1, .int .i64 2] rfl (by (try simp only [List.map_toArray, List.map_cons, List.map_nil]); first | done | rfl | (simp only [List.length_drop, List.length_take]; rfl)) ?_; (with_reducible refine (ping_New.calls 1 2 t126 t127 t128 t129 t130 t131 w _ ?side1 A1.out).mono ?_); (case side1 => repeat (first | (with_reducible first | exact HB.out | apply below_alloc | apply pw_below_drewN | apply below_drew1) | exact HB.out)); rintro e w29 ⟨g132, rfl, hi, hb, hb2⟩; refine ⟨_, rfl, ?_⟩; have n0_ := Aside0.mk (hb); have n1_ := Aside0.mk (hi); clear HB; have HB := n0_; have HI132 := n1_; clear n0_ n1_; (try clear hb); (try clear hb2); (try clear hk); (try clear hi)) | ((with_reducible refine gate_callee (f := 10) rfl ?_); refine goesL_ (some 9) rfl rfl Try.func10 (by kernel_rfl) rfl #[.pointer (some ⟨g132, 0, none⟩)] rfl (by (try simp only [List.map_toArray, List.map_cons, List.map_nil]); first | done | rfl | (simp only [List.length_drop, List.length_take]; rfl)) ?_; (with_reducible refine (ping_Health_Tick.calls k g132 t126 t127 t128 t129 t130 t131 t133 false t135 t136 t137 t138 t139 t140 w _ ?side1 ?side2 A2.out).mono ?_); (case side1 => repeat (first | (with_reducible first | exact HI132.out | apply IsS42.alloc | apply IsS42.drewN | apply IsS42.drew | apply IsS42.set_0 | apply IsS42.set_1 | apply IsS42.set_2 | apply IsS42.set_3 | apply IsS42.set_4 | apply IsS42.set_5) | exact HI132.out)); (case side2 => repeat (first | (with_reducible first | exact HB.out | apply below_alloc | apply pw_below_drewN | apply below_drew1 | refine below_set ?_ (IsS42.ge HI132.out)) | exact HB.out)); rintro e w30 ⟨rfl, hi, hb, hk⟩; refine ⟨_, rfl, ?_⟩; have n0_ := Aside0.mk (hb); have n1_ := Aside0.mk (hi); clear HB; clear HI132; have HB := n0_; have HI132 := n1_; clear n0_ n1_; (try clear hb); (try clear hb2); (try clear hk); (try clear hi)) | (go_at_call 12; (with_reducible refine (ping_Health_Waits.calls g132 t135 t136 t137 t138 t139 t140 false t142 t143 t144 t145 t146 t147 w _ ?side1 ?side2 A7.out).mono ?_); (case side1 => repeat (first | (with_reducible first | exact HI132.out | apply IsS42.alloc | apply IsS42.drewN | apply IsS42.drew | apply IsS42.set_0 | apply IsS42.set_1 | apply IsS42.set_2 | apply IsS42.set_3 | apply IsS42.set_4 | apply IsS42.set_5) | exact HI132.out)); (case side2 => repeat (first | (with_reducible first | exact HB.out | apply below_alloc | apply pw_below_drewN | apply below_drew1 | refine below_set ?_ (IsS42.ge HI132.out)) | exact HB.out)); rintro e w31 ⟨rfl, hi, hb, hk⟩; have n0_ := Aside0.mk (hb); have n1_ := Aside0.mk (hi); clear HB; clear HI132; have HB := n0_; have HI132 := n1_; clear n0_ n1_; (try clear hb); (try clear hb2); (try clear hk); (try clear hi)))
        go_ret
        exact ⟨by first | rfl | (simp [errW_none, errW_some] <;> rfl) | (simp [*, errW_none, errW_some] <;> rfl), by repeat (first | (with_reducible first | exact HB.out | apply below_alloc | apply pw_below_drewN | apply below_drew1 | refine below_set ?_ (IsS42.ge HI132.out)) | exact HB.out)⟩
  · rw [if_neg c3] at H
    have c3b0 : (t133.toList == ([0, 0, 0, 0, 0, 0, 0, 1] : List UInt8)) = false := beq_eq_false_iff_ne.mpr c3
    have c3b1 : (t133.toList != ([0, 0, 0, 0, 0, 0, 0, 1] : List UInt8)) = true := bne_iff_ne.mpr c3
    obtain rfl := Option.some.inj H
    go_enter Try.func8, Try.ntmps8
    go_wp2_with (first | ((with_reducible refine gate_callee (f := 9) rfl ?_); refine goesL_ (some 4) rfl rfl Try.func9 (by kernel_rfl) rfl #[.int .i64 1, .int .i64 2] rfl (by (try simp only [List.map_toArray, List.map_cons, List.map_nil]); first | done | rfl | (simp only [List.length_drop, List.length_take]; rfl)) ?_; (with_reducible refine (ping_New.calls 1 2 t126 t127 t128 t129 t130 t131 w _ ?side1 A1.out).mono ?_); (case side1 => repeat (first | (with_reducible first | exact HB.out | apply below_alloc | apply pw_below_drewN | apply below_drew1) | exact HB.out)); rintro e w32 ⟨g132, rfl, hi, hb, hb2⟩; refine ⟨_, rfl, ?_⟩; have n0_ := Aside0.mk (hb); have n1_ := Aside0.mk (hi); clear HB; have HB := n0_; have HI132 := n1_; clear n0_ n1_; (try clear hb); (try clear hb2); (try clear hk); (try clear hi)) | ((with_reducible refine gate_callee (f := 10) rfl ?_); refine goesL_ (some 9) rfl rfl Try.func10 (by kernel_rfl) rfl #[.pointer (some ⟨g132, 0, none⟩)] rfl (by (try simp only [List.map_toArray, List.map_cons, List.map_nil]); first | done | rfl | (simp only [List.length_drop, List.length_take]; rfl)) ?_; (with_reducible refine (ping_Health_Tick.calls k g132 t126 t127 t128 t129 t130 t131 t133 t134 t135 t136 t137 t138 t139 t140 w _ ?side1 ?side2 A2.out).mono ?_); (case side1 => repeat (first | (with_reducible first | exact HI132.out | apply IsS42.alloc | apply IsS42.drewN | apply IsS42.drew | apply IsS42.set_0 | apply IsS42.set_1 | apply IsS42.set_2 | apply IsS42.set_3 | apply IsS42.set_4 | apply IsS42.set_5) | exact HI132.out)); (case side2 => repeat (first | (with_reducible first | exact HB.out | apply below_alloc | apply pw_below_drewN | apply below_drew1 | refine below_set ?_ (IsS42.ge HI132.out)) | exact HB.out)); rintro e w33 ⟨rfl, hi, hb, hk⟩; refine ⟨_, rfl, ?_⟩; have n0_ := Aside0.mk (hb); have n1_ := Aside0.mk (hi); clear HB; clear HI132; have HB := n0_; have HI132 := n1_; clear n0_ n1_; (try clear hb); (try clear hb2); (try clear hk); (try clear hi)))
    go_ret
    exact ⟨by first | rfl | (simp [errW_none, errW_some] <;> rfl) | (simp [*, errW_none, errW_some] <;> rfl), by repeat (first | (with_reducible first | exact HB.out | apply below_alloc | apply pw_below_drewN | apply below_drew1 | refine below_set ?_ (IsS42.ge HI132.out)) | exact HB.out)⟩

end Go.Proofs.Ytkakcalabpobpaa.PPingPlays
