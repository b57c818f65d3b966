/- Whatever bytes come, in whichever pieces, and however often it is asked for a frame: each answer; also where there is no splitter, since its bound is none. Conditions: those of the statement itself. -/
import Derived.Test.YtcbikdnibjjnbaaPureSplitPlays
namespace Go.Proofs.Ytcbikdnibjjnbaa.WaySplitPlays
open Go.RowKit Go.Proofs.YtcbikdnibjjnbaaW.PrintWords Go.Proofs.YtcbikdnibjjnbaaW.PrintLast Go.Proofs.YtcbikdnibjjnbaaW.PrintMore Go.Proofs.Ytcbikdnibjjnbaa.PSplitPlays
attribute [local go_sem] max2_int min2_int max_two min_two max_three min_three max_four min_four
set_option linter.unusedVariables false
set_option linter.unusedSimpArgs false
set_option maxHeartbeats 800000
theorem over_nil (w : World) : Calls Try.prog 14 #[.pointer none] w fun e w' => e = .returned (.bool true) ∧ ∃ n, w' = w.drewN n := by
  go_enter Try.func14, Try.ntmps14
  go_wp2
  (try go_quiet (fail))
  (try go_wp2)
  go_ret
  first | exact ⟨rfl, 0, rfl⟩ | exact ⟨rfl, _, rfl⟩
theorem held_nil (w : World) : Calls Try.prog 13 #[.pointer none] w fun e w' => e = .returned (.int .i64 0) ∧ ∃ n, w' = w.drewN n := by
  go_enter Try.func13, Try.ntmps13
  go_wp2
  go_ret
  first | exact ⟨rfl, 0, rfl⟩ | exact ⟨rfl, _, rfl⟩
theorem feed_nil (w : World) (s : ByteArray) : Calls Try.prog 12 #[.pointer none, .string s] w fun e w' => e = .returned (.int .i64 0) ∧ ∃ n, w' = w.drewN n := by
  go_enter Try.func12, Try.ntmps12
  go_wp2_with ((go_at_call 14; refine (over_nil _).mono ?_; rintro e w' ⟨rfl, n, rfl⟩))
  (try go_quiet ((go_at_call 14; exact Calls.quiet_of (over_nil _))))
  (try go_wp2)
  go_ret
  first | exact ⟨rfl, 0, rfl⟩ | exact ⟨rfl, _, rfl⟩ | exact ⟨rfl, _, by simp only [World.drewN_drewN]; rfl⟩
theorem next_nil (w : World) : Calls Try.prog 11 #[.pointer none] w fun e w' => e = .returned (.tuple #[.agg #[.int .i64 0, .int .i64 0, .int .i64 0, .string ⟨#[]⟩], .bool false, .int .i64 8]) ∧ Below w.heap.size w w' := by
  have hu28 := Try.underlying28
  have HB := Aside0.mk (Below.refl w.heap.size w)
  go_enter Try.func11, Try.ntmps11
  go_wp2_with (first | ((with_reducible refine gate_dst (N := 2) rfl ?_); refine box_event ?hg (N := 2) ?hd (cs := #[.int .i64 0, .int .i64 0, .int .i64 0, .string (⟨#[]⟩ : ByteArray)]) (t := 28) ?hr ?_; (case hd => rfl); (case hg => rfl); (case hr => first | (go_simp; done) | (go_simp; rfl)); intro gb106 hg w3 hbox hb; have n1_ := Aside0.mk (below_step (by repeat (first | (with_reducible first | exact HB.out | apply below_alloc | apply pw_below_drewN | apply below_drew1) | exact HB.out)) hb); have BK106 := Aside0.mk hbox; have GE106 := Aside0.mk ((by rw [hg]; exact (below_size (by repeat (first | (with_reducible first | exact HB.out | apply below_alloc | apply pw_below_drewN | apply below_drew1) | exact HB.out)))) : w.heap.size ≤ gb106); have hcz_0 : w3.cell? ⟨gb106, 0, none⟩ = some (.int .i64 0) := (blk_cell hbox 0).trans rfl; have hfz_0 := blk_frozen hbox 0; have hcz_1 : w3.cell? ⟨gb106, 1, none⟩ = some (.int .i64 0) := (blk_cell hbox 1).trans rfl; have hfz_1 := blk_frozen hbox 1; have hcz_2 : w3.cell? ⟨gb106, 2, none⟩ = some (.int .i64 0) := (blk_cell hbox 2).trans rfl; have hfz_2 := blk_frozen hbox 2; have hcz_3 : w3.cell? ⟨gb106, 3, none⟩ = some (.string (⟨#[]⟩ : ByteArray)) := (blk_cell hbox 3).trans rfl; have hfz_3 := blk_frozen hbox 3; clear HB; have HB := n1_; clear n1_; clear hb hbox hg))
  refine bodyPost_ret (results_ctt rfl _ _ gb106 28 #[.int .i64 0, .int .i64 0, .int .i64 0, .string (⟨#[]⟩ : ByteArray)] (0, 0) _ rfl (by (with_reducible repeat (first | refine blk_drewN ?_ _ | refine blk_drew ?_ | refine blk_alloc ?_ _)); refine blk_put (cs := #[.int .i64 0, .int .i64 0, .int .i64 0, .string (⟨#[]⟩ : ByteArray)]) ?_ 3 _ rfl; (with_reducible repeat (first | refine blk_drewN ?_ _ | refine blk_drew ?_ | refine blk_alloc ?_ _)); refine blk_put (cs := #[.int .i64 0, .int .i64 0, .int .i64 0, .string (⟨#[]⟩ : ByteArray)]) ?_ 2 _ rfl; (with_reducible repeat (first | refine blk_drewN ?_ _ | refine blk_drew ?_ | refine blk_alloc ?_ _)); refine blk_put (cs := #[.int .i64 0, .int .i64 0, .int .i64 0, .string (⟨#[]⟩ : ByteArray)]) ?_ 1 _ rfl; (with_reducible repeat (first | refine blk_drewN ?_ _ | refine blk_drew ?_ | refine blk_alloc ?_ _)); refine blk_put (cs := #[.int .i64 0, .int .i64 0, .int .i64 0, .string (⟨#[]⟩ : ByteArray)]) ?_ 0 _ rfl; (with_reducible repeat (first | refine blk_drewN ?_ _ | refine blk_drew ?_ | refine blk_alloc ?_ _)); exact BK106.out) Try.underlying28 rfl (by kernel_rfl)) rfl ?_
  exact ⟨rfl, by repeat (first | (with_reducible first | exact HB.out | apply below_alloc | apply pw_below_drewN | apply below_drew1 | refine below_set ?_ GE106.out) | exact HB.out)⟩
theorem new_nil (w : World) (a : Int) (h : a < 64 ∨ 512 < a) : Calls Try.prog 10 #[.int .i64 a] w fun e w' => e = .returned (.pointer none) ∧ ∃ n, w' = w.drewN n := by
  by_cases ha : a < 64
  · have hb : decide (a < 64) = true := decide_eq_true ha
    clear h ha
    go_enter Try.func10, Try.ntmps10
    go_wp2
    (try go_quiet (fail))
    (try go_wp2)
    go_ret
    first | exact ⟨rfl, 0, rfl⟩ | exact ⟨rfl, _, rfl⟩
  · have hb : decide (a < 64) = false := decide_eq_false ha
    have hb2 : decide (512 < a) = true := decide_eq_true (h.resolve_left ha)
    clear h ha
    go_enter Try.func10, Try.ntmps10
    go_wp2
    (try go_quiet (fail))
    (try go_wp2)
    go_ret
    first | exact ⟨rfl, 0, rfl⟩ | exact ⟨rfl, _, rfl⟩
theorem law_nil (w : World) (a0 : Int) (h : a0 < 64 ∨ 512 < a0) (A1 : Option Addr) (c1 len : Nat) (hl : len ≤ 60) (A2 : Option Addr) (c2 len2 : Nat) (k : Nat) (halive : bywashlaw8_alive.f k = some true) :
    Calls Try.prog 3 #[.int .i64 a0, .slice A1 len c1, .slice A2 len2 c2] w fun e w' => e = .returned (.bool true) ∧ Below w.heap.size w w' := by
  have hlb : decide (60 < len) = false := decide_eq_false (by omega)
  have hlb2 : decide ((60 : Int) < (len : Int)) = false := decide_eq_false (by omega)
  have HH := Aside0.mk h
  have HL := Aside0.mk hl
  have HA := Aside0.mk halive
  have HB := Aside0.mk (Below.refl w.heap.size w)
  clear hl halive
  by_cases ha : a0 < 64
  · have hb1 : decide (a0 < 64) = true := decide_eq_true ha
    clear h ha
    go_enter Try.func3, Try.ntmps3
    go_wp2_with (first | (go_at_call 9; refine (bywashlaw8_alive.calls k true _ HA.out).mono ?_; rintro e w1 ⟨rfl, hb⟩; have n1_ := Aside0.mk (below_step (by repeat (first | (with_reducible first | exact HB.out | apply below_alloc | apply pw_below_drewN | apply below_drew1) | exact HB.out)) hb); clear HB; have HB := n1_; clear n1_ hb) | (go_at_call 10; refine (new_nil _ _ HH.out).mono ?_; rintro e w2 ⟨rfl, n, rfl⟩) | (go_at_call 11; refine (next_nil _).mono ?_; rintro e w2 ⟨rfl, hb⟩; have n1_ := Aside0.mk (below_step (by repeat (first | (with_reducible first | exact HB.out | apply below_alloc | apply pw_below_drewN | apply below_drew1) | exact HB.out)) hb); clear HB; have HB := n1_; clear n1_ hb) | (go_at_call 12; refine (feed_nil _ _).mono ?_; rintro e w2 ⟨rfl, n, rfl⟩) | (go_at_call 13; refine (held_nil _).mono ?_; rintro e w2 ⟨rfl, n, rfl⟩) | (go_at_call 14; refine (over_nil _).mono ?_; rintro e w2 ⟨rfl, n, rfl⟩))
    go_ret
    exact ⟨rfl, by repeat (first | exact HB.out | apply pw_below_drewN | apply below_drew1 | apply below_alloc)⟩
  · have hb1 : decide (a0 < 64) = false := decide_eq_false ha
    have hb2 : decide (512 < a0) = true := decide_eq_true (h.resolve_left ha)
    clear h ha
    go_enter Try.func3, Try.ntmps3
    go_wp2_with (first | (go_at_call 9; refine (bywashlaw8_alive.calls k true _ HA.out).mono ?_; rintro e w1 ⟨rfl, hb⟩; have n1_ := Aside0.mk (below_step (by repeat (first | (with_reducible first | exact HB.out | apply below_alloc | apply pw_below_drewN | apply below_drew1) | exact HB.out)) hb); clear HB; have HB := n1_; clear n1_ hb) | (go_at_call 10; refine (new_nil _ _ HH.out).mono ?_; rintro e w2 ⟨rfl, n, rfl⟩) | (go_at_call 11; refine (next_nil _).mono ?_; rintro e w2 ⟨rfl, hb⟩; have n1_ := Aside0.mk (below_step (by repeat (first | (with_reducible first | exact HB.out | apply below_alloc | apply pw_below_drewN | apply below_drew1) | exact HB.out)) hb); clear HB; have HB := n1_; clear n1_ hb) | (go_at_call 12; refine (feed_nil _ _).mono ?_; rintro e w2 ⟨rfl, n, rfl⟩) | (go_at_call 13; refine (held_nil _).mono ?_; rintro e w2 ⟨rfl, n, rfl⟩) | (go_at_call 14; refine (over_nil _).mono ?_; rintro e w2 ⟨rfl, n, rfl⟩))
    go_ret
    exact ⟨rfl, by repeat (first | exact HB.out | apply pw_below_drewN | apply below_drew1 | apply below_alloc)⟩
theorem way (W : World) (a0 : Int) (hG0 : (Lit.int .i64 a0).wf = true) (A1 : Option Addr) (c1 : Nat) (l1 : List ByteArray) (hr1 : Kd.C Kd.string W A1 l1.length l1) (hc1 : l1.length ≤ c1) (hG1 : l1.length ≤ maxLen ∧ l1.length * 16 ≤ 140737488351232 ∧ ∀ x ∈ l1, x.size ≤ 140737488351232) (A2 : Option Addr) (c2 : Nat) (l2 : List Int) (hr2 : Kd.C (Kd.int .i64) W A2 l2.length l2) (hc2 : l2.length ≤ c2) (hG2 : l2.length ≤ maxLen ∧ l2.length * 8 ≤ 140737488351232 ∧ ∀ x ∈ l2, (Lit.int .i64 x).wf = true) :
    Calls Try.prog 3 #[.int .i64 a0, .slice A1 l1.length c1, .slice A2 l2.length c2] W fun e w' => e = .returned (.bool true) ∧ Below W.heap.size W w' := by
  by_cases h : l1.length > 60 ∨ 64 ≤ a0 ∧ a0 ≤ 512
  · obtain ⟨k, hk⟩ := Pure.SplitPlays_some a0 l1 l2 h
    exact bywashlaw8_SplitPlays.calls (w := W) (r := true) (h := hk) (hr1 := hr1) (hc1 := hc1) (hr2 := hr2) (hc2 := hc2)
  · obtain ⟨k, hk⟩ := Pure.alive_some
    exact law_nil W a0 (by omega) A1 c1 l1.length (by omega) A2 c2 l2.length k hk
end Go.Proofs.Ytcbikdnibjjnbaa.WaySplitPlays
