-- PRINTED BY print.sh 35421559b90ae4d0a3588c463048766b98c2df88dd9212a6774a882060cdf62d: not written by this session
import Derived.Test.YtodimdhhmifdfaaPWindowEvenx0
import Derived.Test.YtodimdhhmifdfaaPWindowEvenx1
namespace Go.Proofs.Ytodimdhhmifdfaa.PWindowEven
open Go.RowKit Go.Proofs.YtodimdhhmifdfaaW.PrintWords Go.Proofs.YtodimdhhmifdfaaW.PrintLast Go.Proofs.YtodimdhhmifdfaaW.PrintMore
attribute [local go_sem] max2_int min2_int max_two min_two max_three min_three max_four min_four   -- for this text's walks alone
set_option linter.unusedVariables false
set_option linter.unusedSimpArgs false

/-! ### bywashlaw12_WindowEven: function 3 -/
mutual
def bywashlaw12_WindowEven.j0 : Nat → Int → List Int → Bool → Option (Bool)
  | 0, _, _, _ => none
  | k + 1, x0, x1, x28 => if x28 = true then ((bywashlaw12_alive.f).bind fun t130 => (some t130)) else ((window_New.f x0).bind fun bt131 => (if bt131.2.2.2 = true then (bywashlaw12_WindowEven.l0 k x0 0 x1 (x1.length : Int) 0 bt131.1 bt131.2.1 bt131.2.2.1) else (some false)))
def bywashlaw12_WindowEven.l0 : Nat → Int → Int → List Int → Int → Int → Int → Int → Int → Option (Bool)
  | 0, _, _, _, _, _, _, _, _ => none
  | k + 1, x0, x7, x37, x38, x39, x136000, x136001, x136002 => if x39 < x38 then (if 0 ≤ x39 then (if x39 < (x37.length : Int) then (if (Int.tmod x39 2) = 0 then ((window_Spend.f x136000 x136001 x136002 (mn (mx (rd x37 x39) 0) 65535)).bind fun bt137 => (if bt137.2.2.2 = true then (if (wrap64 ((wrap64 (bt137.1 + bt137.2.2.1)) + (wrap64 (x7 + (mn (mx (rd x37 x39) 0) 65535))))) = x0 then (if bt137.1 < 0 then (some false) else (bywashlaw12_WindowEven.l0 k x0 (wrap64 (x7 + (mn (mx (rd x37 x39) 0) 65535))) x37 x38 (wrap64 (x39 + 1)) bt137.1 bt137.2.1 bt137.2.2.1)) else (some false)) else (if (mn (mx (rd x37 x39) 0) 65535) ≤ x136000 then (some false) else (if (wrap64 ((wrap64 (x136000 + x136002)) + x7)) = x0 then (if x136000 < 0 then (some false) else (bywashlaw12_WindowEven.l0 k x0 x7 x37 x38 (wrap64 (x39 + 1)) x136000 x136001 x136002)) else (some false))))) else ((window_Credit.f x136000 x136001 x136002 (mn (mn (mx (rd x37 x39) 0) 65535) x7)).bind fun bt142 => (if bt142.2.2.2 = (wrap64 (bt142.1 - x136000)) then (if bt142.2.2.2 > 0 then (bywashlaw12_WindowEven.j2 k x0 (wrap64 (x7 - (mn (mn (mx (rd x37 x39) 0) 65535) x7))) x37 x38 x39 (bt142.2.2.1 != 0) bt142.1 bt142.2.1 bt142.2.2.1) else (bywashlaw12_WindowEven.j2 k x0 (wrap64 (x7 - (mn (mn (mx (rd x37 x39) 0) 65535) x7))) x37 x38 x39 false bt142.1 bt142.2.1 bt142.2.2.1)) else (bywashlaw12_WindowEven.j2 k x0 (wrap64 (x7 - (mn (mn (mx (rd x37 x39) 0) 65535) x7))) x37 x38 x39 true bt142.1 bt142.2.1 bt142.2.2.1)))) else (none)) else (none)) else (some true)
def bywashlaw12_WindowEven.j2 : Nat → Int → Int → List Int → Int → Int → Bool → Int → Int → Int → Option (Bool)
  | 0, _, _, _, _, _, _, _, _, _ => none
  | k + 1, x0, x7, x37, x38, x39, x92, x147000, x147001, x147002 => if x92 = true then (some false) else (if (wrap64 ((wrap64 (x147000 + x147002)) + x7)) = x0 then (if x147000 < 0 then (some false) else (bywashlaw12_WindowEven.l0 k x0 x7 x37 x38 (wrap64 (x39 + 1)) x147000 x147001 x147002)) else (some false))
end
def bywashlaw12_WindowEven.f (k : Nat) (a0 : Int) (l1 : List Int) : Option (Bool) := if a0 < 1 then (bywashlaw12_WindowEven.j0 k a0 l1 true) else (if a0 > 65535 then (bywashlaw12_WindowEven.j0 k a0 l1 true) else (if (l1.length : Int) > 60 then (bywashlaw12_WindowEven.j0 k a0 l1 true) else ((bywashlaw12_alive.f).bind fun t129 => (bywashlaw12_WindowEven.j0 k a0 l1 (!t129)))))
theorem bywashlaw12_WindowEven.mono_l : ∀ k, (∀ y0 y1 y2, LeO (bywashlaw12_WindowEven.j0 k y0 y1 y2) (bywashlaw12_WindowEven.j0 (k + 1) y0 y1 y2)) ∧ (∀ y0 y1 y2 y3 y4 y5 y6 y7, LeO (bywashlaw12_WindowEven.l0 k y0 y1 y2 y3 y4 y5 y6 y7) (bywashlaw12_WindowEven.l0 (k + 1) y0 y1 y2 y3 y4 y5 y6 y7)) ∧ (∀ y0 y1 y2 y3 y4 y5 y6 y7 y8, LeO (bywashlaw12_WindowEven.j2 k y0 y1 y2 y3 y4 y5 y6 y7 y8) (bywashlaw12_WindowEven.j2 (k + 1) y0 y1 y2 y3 y4 y5 y6 y7 y8))
  | 0 => ⟨fun _ _ _ r h => by simp [bywashlaw12_WindowEven.j0] at h, fun _ _ _ _ _ _ _ _ r h => by simp [bywashlaw12_WindowEven.l0] at h, fun _ _ _ _ _ _ _ _ _ r h => by simp [bywashlaw12_WindowEven.j2] at h⟩
  | k + 1 => by
    obtain ⟨ih0, ih1, ih2⟩ := bywashlaw12_WindowEven.mono_l k
    refine ⟨?_, ?_, ?_⟩
    · intro y0 y1 y2
      unfold bywashlaw12_WindowEven.j0
      repeat' first
      | (with_reducible exact ih0 _ _ _)
      | (with_reducible exact ih1 _ _ _ _ _ _ _ _)
      | (with_reducible exact ih2 _ _ _ _ _ _ _ _ _)
      | (with_reducible exact LeO.refl _)
      | (with_reducible exact LeO.none _)
      | (with_reducible refine LeO.ite ?_ ?_)
      | (with_reducible refine LeO.bind ?_ (fun _ => ?_))
      | exact ih0 _ _ _
      | exact ih1 _ _ _ _ _ _ _ _
      | exact ih2 _ _ _ _ _ _ _ _ _
      | exact LeO.none _
      | refine LeO.ite ?_ ?_
      | refine LeO.bind ?_ (fun _ => ?_)
    · intro y0 y1 y2 y3 y4 y5 y6 y7
      unfold bywashlaw12_WindowEven.l0
      repeat' first
      | (with_reducible exact ih0 _ _ _)
      | (with_reducible exact ih1 _ _ _ _ _ _ _ _)
      | (with_reducible exact ih2 _ _ _ _ _ _ _ _ _)
      | (with_reducible exact LeO.refl _)
      | (with_reducible exact LeO.none _)
      | (with_reducible refine LeO.ite ?_ ?_)
      | (with_reducible refine LeO.bind ?_ (fun _ => ?_))
      | exact ih0 _ _ _
      | exact ih1 _ _ _ _ _ _ _ _
      | exact ih2 _ _ _ _ _ _ _ _ _
      | exact LeO.none _
      | refine LeO.ite ?_ ?_
      | refine LeO.bind ?_ (fun _ => ?_)
    · intro y0 y1 y2 y3 y4 y5 y6 y7 y8
      unfold bywashlaw12_WindowEven.j2
      repeat' first
      | (with_reducible exact ih0 _ _ _)
      | (with_reducible exact ih1 _ _ _ _ _ _ _ _)
      | (with_reducible exact ih2 _ _ _ _ _ _ _ _ _)
      | (with_reducible exact LeO.refl _)
      | (with_reducible exact LeO.none _)
      | (with_reducible refine LeO.ite ?_ ?_)
      | (with_reducible refine LeO.bind ?_ (fun _ => ?_))
      | exact ih0 _ _ _
      | exact ih1 _ _ _ _ _ _ _ _
      | exact ih2 _ _ _ _ _ _ _ _ _
      | exact LeO.none _
      | refine LeO.ite ?_ ?_
      | refine LeO.bind ?_ (fun _ => ?_)
theorem bywashlaw12_WindowEven.mono : ∀ a0 a1 k, LeO (bywashlaw12_WindowEven.f k a0 a1) (bywashlaw12_WindowEven.f (k + 1) a0 a1) := by
  intro a0 a1 k
  obtain ⟨ih0, ih1, ih2⟩ := bywashlaw12_WindowEven.mono_l k
  unfold bywashlaw12_WindowEven.f
  repeat' first
      | (with_reducible exact ih0 _ _ _)
      | (with_reducible exact ih1 _ _ _ _ _ _ _ _)
      | (with_reducible exact ih2 _ _ _ _ _ _ _ _ _)
      | (with_reducible exact LeO.refl _)
      | (with_reducible exact LeO.none _)
      | (with_reducible refine LeO.ite ?_ ?_)
      | (with_reducible refine LeO.bind ?_ (fun _ => ?_))
      | exact ih0 _ _ _
      | exact ih1 _ _ _ _ _ _ _ _
      | exact ih2 _ _ _ _ _ _ _ _ _
      | exact LeO.none _
      | refine LeO.ite ?_ ?_
      | refine LeO.bind ?_ (fun _ => ?_)
set_option maxHeartbeats 8000000 in
set_option maxRecDepth 100000 in
theorem bywashlaw12_WindowEven.calls (k : Nat) (a0 : Int) (A1 : Option Addr) (c1 : Nat) (l1 : List Int) (r : Bool) (w : World) (hr1 : Kd.C (Kd.int .i64) w A1 l1.length l1) (hc1 : l1.length ≤ c1) (h : bywashlaw12_WindowEven.f k a0 l1 = some r) :
    Calls Try.prog 3 #[.int .i64 a0, .slice A1 l1.length c1] w fun e w' => e = .returned (.bool r) ∧ Below w.heap.size w w' := by
  have hu25 := Try.underlying25
  have HR1 := Aside0.mk hr1
  have HC1 := Aside0.mk hc1
  clear hr1 hc1
  have HB := Aside0.mk (Below.refl w.heap.size w)
  have H : (if a0 < 1 then (bywashlaw12_WindowEven.j0 k a0 l1 true) else (if a0 > 65535 then (bywashlaw12_WindowEven.j0 k a0 l1 true) else (if (l1.length : Int) > 60 then (bywashlaw12_WindowEven.j0 k a0 l1 true) else ((bywashlaw12_alive.f).bind fun t129 => (bywashlaw12_WindowEven.j0 k a0 l1 (!t129)))))) = some r := h
  clear h
  have HC3 := Aside0.mk H
  clear H
  go_enter Try.func3, Try.ntmps3
  go_upto_region 1 with (fail)
  go_cut [28] (fun v28 wc => ∃ (kq : Nat) (x28_2 : Bool), v28 = .bool x28_2 ∧ Aside0 (bywashlaw12_WindowEven.j0 kq a0 l1 x28_2 = some r) ∧ Aside0 (kq ≤ k) ∧ Aside0 (Below w.heap.size w wc))
  case first =>
    have H := HC3.out
    clear HC3
    by_cases c4 : a0 < 1
    · rw [if_pos c4] at H
      have c4b0 : decide (a0 < 1) = true := decide_eq_true c4
      clear c4
      (first | rw [c4b0] | (simp only [i64_w, i32_w]; rw [c4b0]) | skip)
      have H' := Aside0.mk H
      clear H
      go_wp2
      go_meet
      case rel => exact ⟨_, (true), (by first | rfl | (simp; done) | (simp [*]; done)), H', ⟨by first | omega | exact Nat.le_refl _⟩, ⟨by repeat (first | (with_reducible first | exact HB.out | apply below_alloc | apply pw_below_drewN | apply below_drew1) | exact HB.out)⟩⟩
    · rw [if_neg c4] at H
      have c4b0 : decide (a0 < 1) = false := decide_eq_false c4
      clear c4
      (first | rw [c4b0] | (simp only [i64_w, i32_w]; rw [c4b0]) | skip)
      by_cases c5 : a0 > 65535
      · rw [if_pos c5] at H
        have c5b0 : decide (65535 < a0) = true := decide_eq_true c5
        clear c5
        have H' := Aside0.mk H
        clear H
        go_wp2
        go_meet
        case rel => exact ⟨_, (true), (by first | rfl | (simp; done) | (simp [*]; done)), H', ⟨by first | omega | exact Nat.le_refl _⟩, ⟨by repeat (first | (with_reducible first | exact HB.out | apply below_alloc | apply pw_below_drewN | apply below_drew1) | exact HB.out)⟩⟩
      · rw [if_neg c5] at H
        have c5b0 : decide (65535 < a0) = false := decide_eq_false c5
        clear c5
        by_cases c6 : (l1.length : Int) > 60
        · rw [if_pos c6] at H
          have c6b0 : decide (60 < (l1.length : Int)) = true := decide_eq_true c6
          have c6b1 : decide (60 < l1.length) = true := decide_eq_true (by omega)
          clear c6
          have H' := Aside0.mk H
          clear H
          go_wp2
          go_meet
          case rel => exact ⟨_, (true), (by first | rfl | (simp; done) | (simp [*]; done)), H', ⟨by first | omega | exact Nat.le_refl _⟩, ⟨by repeat (first | (with_reducible first | exact HB.out | apply below_alloc | apply pw_below_drewN | apply below_drew1) | exact HB.out)⟩⟩
        · rw [if_neg c6] at H
          have c6b0 : decide (60 < (l1.length : Int)) = false := decide_eq_false c6
          have c6b1 : decide (60 < l1.length) = false := decide_eq_false (by omega)
          clear c6
          replace H := Option.bind_eq_some_iff.mp H
          obtain ⟨t129, A70, H⟩ := H
          replace H : (bywashlaw12_WindowEven.j0 k a0 l1 (!t129)) = some r := H
          have A7 := Aside0.mk A70
          clear A70
          have H' := Aside0.mk H
          clear H
          go_wp2_with (first | (go_at_call 9; (with_reducible refine (bywashlaw12_alive.calls  t129 _ A7.out).mono ?_); rintro e w8 ⟨rfl, hb⟩; have n0_ := Aside0.mk (below_step (by repeat (first | (with_reducible first | exact HB.out | apply below_alloc | apply pw_below_drewN | apply below_drew1) | exact HB.out)) hb); clear HB; have HB := n0_; clear n0_; (try clear hb); (try clear hb2); (try clear hk); (try clear hi)))
          go_meet
          case rel => exact ⟨_, (!t129), (by first | rfl | (simp; done) | (simp [*]; done)), H', ⟨by first | omega | exact Nat.le_refl _⟩, ⟨by repeat (first | (with_reducible first | exact HB.out | apply below_alloc | apply pw_below_drewN | apply below_drew1) | exact HB.out)⟩⟩
  case rest =>
    clear HC3
    try clear c1
    try clear p2
    try clear c3
    try clear c4
    try clear c4b0
    try clear c5
    try clear c5b0
    try clear c6
    try clear c6b0
    try clear c6b1
    obtain ⟨kq, x28_2, rfl, HA, HJ2, HB⟩ := hcut
    cases kq with
    | zero => exact absurd HA.out (by simp [bywashlaw12_WindowEven.j0])
    | succ kj2 =>
      have H := HA.out
      clear HA
      simp only [bywashlaw12_WindowEven.j0] at H
      by_cases c9 : x28_2 = true
      · subst c9
        have H1 : ((bywashlaw12_alive.f).bind fun t130 => (some t130)) = some r := by rw [if_pos rfl] at H; exact H
        clear H
        have H := H1
        clear H1
        replace H := Option.bind_eq_some_iff.mp H
        obtain ⟨t130, A100, H⟩ := H
        replace H : (some t130) = some r := H
        have A10 := Aside0.mk A100
        clear A100
        obtain rfl := Option.some.inj H
        go_wp2_with (first | ((with_reducible refine gate_callee (f := 9) rfl ?_); refine goesL_ (some 29) rfl rfl Try.func9 (by kernel_rfl) rfl #[] rfl (by (try simp only [List.map_toArray, List.map_cons, List.map_nil]); first | done | rfl | (simp only [List.length_drop, List.length_take]; rfl)) ?_; (with_reducible refine (bywashlaw12_alive.calls  t130 _ A10.out).mono ?_); rintro e w11 ⟨rfl, hb⟩; refine ⟨_, rfl, ?_⟩; have n0_ := Aside0.mk (below_step (by repeat (first | (with_reducible first | exact HB.out | apply below_alloc | apply pw_below_drewN | apply below_drew1) | exact HB.out)) hb); clear HB; have HB := n0_; clear n0_; (try clear hb); (try clear hb2); (try clear hk); (try clear hi)))
        go_ret
        exact ⟨by first | rfl | (simp [errW_none, errW_some] <;> rfl) | (simp [*, errW_none, errW_some] <;> rfl), by repeat (first | (with_reducible first | exact HB.out | apply below_alloc | apply pw_below_drewN | apply below_drew1) | exact HB.out)⟩
      · replace c9 := Bool.eq_false_iff.mpr c9
        subst c9
        have H1 : ((window_New.f a0).bind fun bt131 => (if bt131.2.2.2 = true then (bywashlaw12_WindowEven.l0 kj2 a0 0 l1 (l1.length : Int) 0 bt131.1 bt131.2.1 bt131.2.2.1) else (some false))) = some r := by rw [if_neg (show ¬ (false = true) by decide)] at H; exact H
        clear H
        have H := H1
        clear H1
        replace H := Option.bind_eq_some_iff.mp H
        obtain ⟨⟨t131, t132, t133, t134⟩, A120, H⟩ := H
        replace H : (if t134 = true then (bywashlaw12_WindowEven.l0 kj2 a0 0 l1 (l1.length : Int) 0 t131 t132 t133) else (some false)) = some r := H
        have A12 := Aside0.mk A120
        clear A120
        by_cases c13 : t134 = true
        · subst c13
          have H1 : (bywashlaw12_WindowEven.l0 kj2 a0 0 l1 (l1.length : Int) 0 t131 t132 t133) = some r := by rw [if_pos rfl] at H; exact H
          clear H
          have H := H1
          clear H1
          have H' := Aside0.mk H
          clear H
          go_wp2_with (first | ((with_reducible refine gate_callee (f := 10) rfl ?_); refine goesL_ (some 32) rfl rfl Try.func10 (by kernel_rfl) rfl #[.int .i64 a0] rfl (by (try simp only [List.map_toArray, List.map_cons, List.map_nil]); first | done | rfl | (simp only [List.length_drop, List.length_take]; rfl)) ?_; (with_reducible refine (window_New.calls a0 t131 t132 t133 true _ A12.out).mono ?_); rintro e w14 ⟨rfl, hb⟩; refine ⟨_, rfl, ?_⟩; have n0_ := Aside0.mk (below_step (by repeat (first | (with_reducible first | exact HB.out | apply below_alloc | apply pw_below_drewN | apply below_drew1) | exact HB.out)) hb); clear HB; have HB := n0_; clear n0_; (try clear hb); (try clear hb2); (try clear hk); (try clear hi)) | ((with_reducible refine gate_dst (N := 5) rfl ?_); (try (refine gate_guard (by rfl) ?_; dsimp only)); refine box_event ?hg (N := 5) ?hd (cs := #[.int .i64 0, .int .i64 0, .int .i64 0]) (t := 25) ?hr ?_; (case hd => rfl); (case hg => rfl); (case hr => first | (go_simp; done) | (go_simp; rfl)); intro gb135 hg w15 hbox hb; have n0_ := Aside0.mk (below_step (by repeat (first | (with_reducible first | exact HB.out | apply below_alloc | apply pw_below_drewN | apply below_drew1) | exact HB.out)) hb); have n1_ := Aside0.mk (hbox); have n2_ := Aside0.mk ((by rw [hg]; exact (below_size (by repeat (first | (with_reducible first | exact HB.out | apply below_alloc | apply pw_below_drewN | apply below_drew1) | exact HB.out))) : w.heap.size ≤ gb135)); have n3_ := Aside0.mk ((by rw [hg]; exact (below_size (by repeat (first | (with_reducible first | exact HB.out | apply below_alloc | apply pw_below_drewN | apply below_drew1) | exact HB.out))) : w.heap.size ≤ gb135)); clear HB; have HB := n0_; have BK135 := n1_; have GW135 := n2_; have GE135 := n3_; clear n0_ n1_ n2_ n3_; clear hb hbox hg; have hcz16_0 : w15.cell? ⟨gb135, 0, none⟩ = some (.int .i64 0) := (blk_cell BK135.out 0).trans rfl; have hcz16_1 : w15.cell? ⟨gb135, 1, none⟩ = some (.int .i64 0) := (blk_cell BK135.out 1).trans rfl; have hcz16_2 : w15.cell? ⟨gb135, 2, none⟩ = some (.int .i64 0) := (blk_cell BK135.out 2).trans rfl; have hfz16_0 := blk_frozen BK135.out 0; have hfz16_1 := blk_frozen BK135.out 1; have hfz16_2 := blk_frozen BK135.out 2))
          go_loopg [7, 39] kj2 (fun kq v7 v39 w' => ∃ (x7_2 : Int) (x39_2 : Int) (x136000_2 : Int) (x136001_2 : Int) (x136002_2 : Int), v7 = .int .i64 x7_2 ∧ v39 = .int .i64 x39_2 ∧ Aside0 (bywashlaw12_WindowEven.l0 kq a0 x7_2 l1 (l1.length : Int) x39_2 x136000_2 x136001_2 x136002_2 = some r) ∧ Aside0 (kq ≤ kj2) ∧ Aside0 (w'.heap[gb135]? = some (.cells #[.int .i64 x136000_2, .int .i64 x136001_2, .int .i64 x136002_2] 25 (0, 0))) ∧ Aside0 (Below w.heap.size w w'))
          case atStart => exact ⟨(0), (0), (t131), (t132), (t133), (by first | rfl | (simp; done) | (simp [*]; done)), (by first | rfl | (simp; done) | (simp [*]; done)), H', ⟨Nat.le_refl _⟩, ⟨by (with_reducible repeat (first | refine blk_drewN ?_ _ | refine blk_drew ?_ | refine blk_alloc ?_ _)); refine blk_put (cs := #[.int .i64 t131, .int .i64 t132, .int .i64 0]) ?_ 2 _ rfl; (with_reducible repeat (first | refine blk_drewN ?_ _ | refine blk_drew ?_ | refine blk_alloc ?_ _)); refine blk_put (cs := #[.int .i64 t131, .int .i64 0, .int .i64 0]) ?_ 1 _ rfl; (with_reducible repeat (first | refine blk_drewN ?_ _ | refine blk_drew ?_ | refine blk_alloc ?_ _)); refine blk_put (cs := #[.int .i64 0, .int .i64 0, .int .i64 0]) ?_ 0 _ rfl; (with_reducible repeat (first | refine blk_drewN ?_ _ | refine blk_drew ?_ | refine blk_alloc ?_ _)); exact BK135.out⟩, ⟨by repeat (first | (with_reducible first | exact HB.out | apply below_alloc | apply pw_below_drewN | apply below_drew1 | refine below_set ?_ GE135.out) | exact HB.out)⟩⟩
          case round =>
            clear H'
            try clear c1
            try clear p2
            try clear c3
            try clear c4
            try clear c4b0
            try clear c5
            try clear c5b0
            try clear c6
            try clear c6b0
            try clear c6b1
            try clear c9
            try clear c10
            try clear c13
            try clear hcz16_0
            try clear hcz16_1
            try clear hcz16_2
            try clear hfz16_0
            try clear hfz16_1
            try clear hfz16_2
            try clear p2
            obtain ⟨x7_2, x39_2, x136000_2, x136001_2, x136002_2, rfl, rfl, HA, HK2, BK135, HB⟩ := hrel
            cases gk with
            | zero => exact absurd HA.out (by simp [bywashlaw12_WindowEven.l0])
            | succ k2 =>
              have H := HA.out
              clear HA
              simp only [bywashlaw12_WindowEven.l0] at H
              by_cases c17 : x39_2 < (l1.length : Int)
              · rw [if_pos c17] at H
                have c17b0 : decide (x39_2 < (l1.length : Int)) = true := decide_eq_true c17
                clear c17
                by_cases c18 : 0 ≤ x39_2
                · rw [if_pos c18] at H
                  have c18b0 : decide (0 ≤ x39_2) = true := decide_eq_true c18
                  clear c18
                  by_cases c19 : x39_2 < (l1.length : Int)
                  · rw [if_pos c19] at H
                    have c19b0 : decide (x39_2 < (l1.length : Int)) = true := decide_eq_true c19
                    clear c19
                    obtain ⟨ji20, hji20⟩ : ∃ j_ : Int, (mx (rd l1 x39_2) 0) = j_ := ⟨_, rfl⟩
                    replace H : (if (Int.tmod x39_2 2) = 0 then ((window_Spend.f x136000_2 x136001_2 x136002_2 (mn (ji20) 65535)).bind fun bt137 => (if bt137.2.2.2 = true then (if (wrap64 ((wrap64 (bt137.1 + bt137.2.2.1)) + (wrap64 (x7_2 + (mn (ji20) 65535))))) = a0 then (if bt137.1 < 0 then (some false) else (bywashlaw12_WindowEven.l0 k2 a0 (wrap64 (x7_2 + (mn (ji20) 65535))) l1 (l1.length : Int) (wrap64 (x39_2 + 1)) bt137.1 bt137.2.1 bt137.2.2.1)) else (some false)) else (if (mn (ji20) 65535) ≤ x136000_2 then (some false) else (if (wrap64 ((wrap64 (x136000_2 + x136002_2)) + x7_2)) = a0 then (if x136000_2 < 0 then (some false) else (bywashlaw12_WindowEven.l0 k2 a0 x7_2 l1 (l1.length : Int) (wrap64 (x39_2 + 1)) x136000_2 x136001_2 x136002_2)) else (some false))))) else ((window_Credit.f x136000_2 x136001_2 x136002_2 (mn (mn (ji20) 65535) x7_2)).bind fun bt142 => (if bt142.2.2.2 = (wrap64 (bt142.1 - x136000_2)) then (if bt142.2.2.2 > 0 then (bywashlaw12_WindowEven.j2 k2 a0 (wrap64 (x7_2 - (mn (mn (ji20) 65535) x7_2))) l1 (l1.length : Int) x39_2 (bt142.2.2.1 != 0) bt142.1 bt142.2.1 bt142.2.2.1) else (bywashlaw12_WindowEven.j2 k2 a0 (wrap64 (x7_2 - (mn (mn (ji20) 65535) x7_2))) l1 (l1.length : Int) x39_2 false bt142.1 bt142.2.1 bt142.2.2.1)) else (bywashlaw12_WindowEven.j2 k2 a0 (wrap64 (x7_2 - (mn (mn (ji20) 65535) x7_2))) l1 (l1.length : Int) x39_2 true bt142.1 bt142.2.1 bt142.2.2.1)))) = some r := by first | (rw [hji20] at H; exact H) | (simp only [hji20] at H ⊢; exact H)
                    have hji20_ : (if (rd l1 x39_2) < 0 then 0 else (rd l1 x39_2)) = ji20 := hji20
                    obtain ⟨ji21, hji21⟩ : ∃ j_ : Int, (mn (ji20) 65535) = j_ := ⟨_, rfl⟩
                    replace H : (if (Int.tmod x39_2 2) = 0 then ((window_Spend.f x136000_2 x136001_2 x136002_2 (ji21)).bind fun bt137 => (if bt137.2.2.2 = true then (if (wrap64 ((wrap64 (bt137.1 + bt137.2.2.1)) + (wrap64 (x7_2 + (ji21))))) = a0 then (if bt137.1 < 0 then (some false) else (bywashlaw12_WindowEven.l0 k2 a0 (wrap64 (x7_2 + (ji21))) l1 (l1.length : Int) (wrap64 (x39_2 + 1)) bt137.1 bt137.2.1 bt137.2.2.1)) else (some false)) else (if (ji21) ≤ x136000_2 then (some false) else (if (wrap64 ((wrap64 (x136000_2 + x136002_2)) + x7_2)) = a0 then (if x136000_2 < 0 then (some false) else (bywashlaw12_WindowEven.l0 k2 a0 x7_2 l1 (l1.length : Int) (wrap64 (x39_2 + 1)) x136000_2 x136001_2 x136002_2)) else (some false))))) else ((window_Credit.f x136000_2 x136001_2 x136002_2 (mn (ji21) x7_2)).bind fun bt142 => (if bt142.2.2.2 = (wrap64 (bt142.1 - x136000_2)) then (if bt142.2.2.2 > 0 then (bywashlaw12_WindowEven.j2 k2 a0 (wrap64 (x7_2 - (mn (ji21) x7_2))) l1 (l1.length : Int) x39_2 (bt142.2.2.1 != 0) bt142.1 bt142.2.1 bt142.2.2.1) else (bywashlaw12_WindowEven.j2 k2 a0 (wrap64 (x7_2 - (mn (ji21) x7_2))) l1 (l1.length : Int) x39_2 false bt142.1 bt142.2.1 bt142.2.2.1)) else (bywashlaw12_WindowEven.j2 k2 a0 (wrap64 (x7_2 - (mn (ji21) x7_2))) l1 (l1.length : Int) x39_2 true bt142.1 bt142.2.1 bt142.2.2.1)))) = some r := by first | (rw [hji21] at H; exact H) | (simp only [hji21] at H ⊢; exact H)
                    have hji21_ : (if 65535 < (ji20) then 65535 else (ji20)) = ji21 := hji21
                    by_cases c22 : (Int.tmod x39_2 2) = 0
                    · rw [if_pos c22] at H
                      have c22b0 : ((Int.tmod x39_2 2) == 0) = true := beq_iff_eq.mpr c22
                      have c22b1 : ((Int.tmod x39_2 2) != 0) = false := bne_eq_false_iff_eq.mpr c22
                      clear c22
                      replace H := Option.bind_eq_some_iff.mp H
                      obtain ⟨⟨t137, t138, t139, t140⟩, A230, H⟩ := H
                      replace H : (if t140 = true then (if (wrap64 ((wrap64 (t137 + t139)) + (wrap64 (x7_2 + (ji21))))) = a0 then (if t137 < 0 then (some false) else (bywashlaw12_WindowEven.l0 k2 a0 (wrap64 (x7_2 + (ji21))) l1 (l1.length : Int) (wrap64 (x39_2 + 1)) t137 t138 t139)) else (some false)) else (if (ji21) ≤ x136000_2 then (some false) else (if (wrap64 ((wrap64 (x136000_2 + x136002_2)) + x7_2)) = a0 then (if x136000_2 < 0 then (some false) else (bywashlaw12_WindowEven.l0 k2 a0 x7_2 l1 (l1.length : Int) (wrap64 (x39_2 + 1)) x136000_2 x136001_2 x136002_2)) else (some false)))) = some r := H
                      have A23 := Aside0.mk A230
                      clear A230
                      by_cases c24 : t140 = true
                      · subst c24
                        have H1 : (if (wrap64 ((wrap64 (t137 + t139)) + (wrap64 (x7_2 + (ji21))))) = a0 then (if t137 < 0 then (some false) else (bywashlaw12_WindowEven.l0 k2 a0 (wrap64 (x7_2 + (ji21))) l1 (l1.length : Int) (wrap64 (x39_2 + 1)) t137 t138 t139)) else (some false)) = some r := by rw [if_pos rfl] at H; exact H
                        clear H
                        have H := H1
                        clear H1
                        by_cases c25 : (wrap64 ((wrap64 (t137 + t139)) + (wrap64 (x7_2 + (ji21))))) = a0
                        · rw [if_pos c25] at H
                          have c25b0 : ((wrap64 ((wrap64 (t137 + t139)) + (wrap64 (x7_2 + (ji21))))) == a0) = true := beq_iff_eq.mpr c25
                          have c25b1 : ((wrap64 ((wrap64 (t137 + t139)) + (wrap64 (x7_2 + (ji21))))) != a0) = false := bne_eq_false_iff_eq.mpr c25
                          clear c25
                          by_cases c26 : t137 < 0
                          · rw [if_pos c26] at H
                            have c26b0 : decide (t137 < 0) = true := decide_eq_true c26
                            clear c26
                            obtain rfl := Option.some.inj H
                            have p136 : 0 ≤ (x39_2 : Int) := of_decide_eq_true (by first | (with_reducible assumption) | assumption)
                            have q136 : x39_2 < (l1.length : Int) := of_decide_eq_true (by first | (with_reducible assumption) | assumption)
                            obtain ⟨ad136, e136, hx136_0⟩ := Kd.at_int HR1.out x39_2 p136 q136
                            cases e136
                            replace hx136_0 := (HB.out.cell (World.block_lt_of_cell? w _ hx136_0)).trans hx136_0
                            replace p136 := eq_true p136
                            replace q136 := eq_true q136
                            have hcz27_0 : wr.cell? ⟨gb135, 0, none⟩ = some (.int .i64 x136000_2) := (blk_cell BK135.out 0).trans rfl
                            have hcz27_1 : wr.cell? ⟨gb135, 1, none⟩ = some (.int .i64 x136001_2) := (blk_cell BK135.out 1).trans rfl
                            have hcz27_2 : wr.cell? ⟨gb135, 2, none⟩ = some (.int .i64 x136002_2) := (blk_cell BK135.out 2).trans rfl
                            have hfz27_0 := blk_frozen BK135.out 0
                            have hfz27_1 := blk_frozen BK135.out 1
                            have hfz27_2 := blk_frozen BK135.out 2
                            go_wp2_with (first | ((with_reducible refine gate_callee (f := 11) rfl ?_); refine goesL_ (some 53) rfl rfl Try.func11 (by kernel_rfl) rfl #[.agg #[.int .i64 x136000_2, .int .i64 x136001_2, .int .i64 x136002_2], .int .i64 ji21] rfl (by (try simp only [List.map_toArray, List.map_cons, List.map_nil]); first | done | (simp only [hji21]; rfl) | rfl | (simp only [List.length_drop, List.length_take]; rfl)) ?_; (with_reducible refine (window_Spend.calls x136000_2 x136001_2 x136002_2 ji21 t137 t138 t139 true _ A23.out).mono ?_); rintro e w28 ⟨rfl, hb⟩; refine ⟨_, rfl, ?_⟩; have n0_ := Aside0.mk (blk_below (g := gb135) (o := .cells #[.int .i64 x136000_2, .int .i64 x136001_2, .int .i64 x136002_2] 25 (0, 0)) (by (with_reducible repeat (first | refine blk_drewN ?_ _ | refine blk_drew ?_ | refine blk_alloc ?_ _)); exact BK135.out) hb); have n1_ := Aside0.mk (below_step (by repeat (first | (with_reducible first | exact HB.out | apply below_alloc | apply pw_below_drewN | apply below_drew1 | refine below_set ?_ GE135.out) | exact HB.out)) hb); clear BK135; clear HB; have BK135 := n0_; have HB := n1_; clear n0_ n1_; (try clear hb); (try clear hb2); (try clear hk); (try clear hi)) | ((with_reducible refine gate_dst (N := 10) rfl ?_); (try (refine gate_guard (by rfl) ?_; dsimp only)); refine box_event ?hg (N := 10) ?hd (cs := #[.int .i64 0, .int .i64 0, .int .i64 0]) (t := 25) ?hr ?_; (case hd => rfl); (case hg => rfl); (case hr => first | (go_simp; done) | (go_simp; rfl)); intro gb141 hg w29 hbox hb; have n0_ := Aside0.mk (blk_below (g := gb135) (o := .cells #[.int .i64 x136000_2, .int .i64 x136001_2, .int .i64 x136002_2] 25 (0, 0)) (by (with_reducible repeat (first | refine blk_drewN ?_ _ | refine blk_drew ?_ | refine blk_alloc ?_ _)); exact BK135.out) hb); have n1_ := Aside0.mk (below_step (by repeat (first | (with_reducible first | exact HB.out | apply below_alloc | apply pw_below_drewN | apply below_drew1 | refine below_set ?_ GE135.out) | exact HB.out)) hb); have n2_ := Aside0.mk (hbox); have n3_ := Aside0.mk ((by rw [hg]; exact (below_size (by repeat (first | (with_reducible first | exact HB.out | apply below_alloc | apply pw_below_drewN | apply below_drew1 | refine below_set ?_ GE135.out) | exact HB.out))) : w.heap.size ≤ gb141)); have n4_ := Aside0.mk ((by rw [hg]; exact (below_size (by repeat (first | (with_reducible first | exact HB.out | apply below_alloc | apply pw_below_drewN | apply below_drew1 | refine below_set ?_ GE135.out) | exact HB.out))) : w.heap.size ≤ gb141)); have n5_ := Aside0.mk ((by rw [hg]; exact Nat.ne_of_lt (blk_lt (g := gb135) (o := .cells #[.int .i64 x136000_2, .int .i64 x136001_2, .int .i64 x136002_2] 25 (0, 0)) (by (with_reducible repeat (first | refine blk_drewN ?_ _ | refine blk_drew ?_ | refine blk_alloc ?_ _)); exact BK135.out)) : gb135 ≠ gb141)); have n6_ := Aside0.mk ((by rw [hg]; exact Nat.ne_of_gt (blk_lt (g := gb135) (o := .cells #[.int .i64 x136000_2, .int .i64 x136001_2, .int .i64 x136002_2] 25 (0, 0)) (by (with_reducible repeat (first | refine blk_drewN ?_ _ | refine blk_drew ?_ | refine blk_alloc ?_ _)); exact BK135.out)) : gb141 ≠ gb135)); clear BK135; clear HB; have BK135 := n0_; have HB := n1_; have BK141 := n2_; have GW141 := n3_; have GE141 := n4_; have NB135_141 := n5_; have NB141_135 := n6_; clear n0_ n1_ n2_ n3_ n4_ n5_ n6_; clear hb hbox hg; have hnb30 := NB141_135.out; have hnc30 := NB135_141.out; have hcz31_0 : w29.cell? ⟨gb141, 0, none⟩ = some (.int .i64 0) := (blk_cell BK141.out 0).trans rfl; have hcz31_1 : w29.cell? ⟨gb141, 1, none⟩ = some (.int .i64 0) := (blk_cell BK141.out 1).trans rfl; have hcz31_2 : w29.cell? ⟨gb141, 2, none⟩ = some (.int .i64 0) := (blk_cell BK141.out 2).trans rfl; have hfz31_0 := blk_frozen BK141.out 0; have hfz31_1 := blk_frozen BK141.out 1; have hfz31_2 := blk_frozen BK141.out 2; have hcz32_0 : w29.cell? ⟨gb135, 0, none⟩ = some (.int .i64 x136000_2) := (blk_cell BK135.out 0).trans rfl; have hcz32_1 : w29.cell? ⟨gb135, 1, none⟩ = some (.int .i64 x136001_2) := (blk_cell BK135.out 1).trans rfl; have hcz32_2 : w29.cell? ⟨gb135, 2, none⟩ = some (.int .i64 x136002_2) := (blk_cell BK135.out 2).trans rfl; have hfz32_0 := blk_frozen BK135.out 0; have hfz32_1 := blk_frozen BK135.out 1; have hfz32_2 := blk_frozen BK135.out 2))
                            go_ret
                            exact ⟨by first | rfl | (simp [errW_none, errW_some] <;> rfl) | (simp only [← hji20, ← hji21]; first | rfl | (simp [errW_none, errW_some] <;> rfl)) | (simp [*, errW_none, errW_some] <;> rfl), by repeat (first | (with_reducible first | exact HB.out | apply below_alloc | apply pw_below_drewN | apply below_drew1 | refine below_set ?_ GE135.out | refine below_set ?_ GE141.out) | exact HB.out)⟩
                          · rw [if_neg c26] at H
                            have c26b0 : decide (t137 < 0) = false := decide_eq_false c26
                            clear c26
                            have H' := Aside0.mk H
                            clear H
                            have p136 : 0 ≤ (x39_2 : Int) := of_decide_eq_true (by first | (with_reducible assumption) | assumption)
                            have q136 : x39_2 < (l1.length : Int) := of_decide_eq_true (by first | (with_reducible assumption) | assumption)
                            obtain ⟨ad136, e136, hx136_0⟩ := Kd.at_int HR1.out x39_2 p136 q136
                            cases e136
                            replace hx136_0 := (HB.out.cell (World.block_lt_of_cell? w _ hx136_0)).trans hx136_0
                            replace p136 := eq_true p136
                            replace q136 := eq_true q136
                            have hcz33_0 : wr.cell? ⟨gb135, 0, none⟩ = some (.int .i64 x136000_2) := (blk_cell BK135.out 0).trans rfl
                            have hcz33_1 : wr.cell? ⟨gb135, 1, none⟩ = some (.int .i64 x136001_2) := (blk_cell BK135.out 1).trans rfl
                            have hcz33_2 : wr.cell? ⟨gb135, 2, none⟩ = some (.int .i64 x136002_2) := (blk_cell BK135.out 2).trans rfl
                            have hfz33_0 := blk_frozen BK135.out 0
                            have hfz33_1 := blk_frozen BK135.out 1
                            have hfz33_2 := blk_frozen BK135.out 2
                            go_wp2_with (first | ((with_reducible refine gate_callee (f := 11) rfl ?_); refine goesL_ (some 53) rfl rfl Try.func11 (by kernel_rfl) rfl #[.agg #[.int .i64 x136000_2, .int .i64 x136001_2, .int .i64 x136002_2], .int .i64 ji21] rfl (by (try simp only [List.map_toArray, List.map_cons, List.map_nil]); first | done | (simp only [hji21]; rfl) | rfl | (simp only [List.length_drop, List.length_take]; rfl)) ?_; (with_reducible refine (window_Spend.calls x136000_2 x136001_2 x136002_2 ji21 t137 t138 t139 true _ A23.out).mono ?_); rintro e w34 ⟨rfl, hb⟩; refine ⟨_, rfl, ?_⟩; have n0_ := Aside0.mk (blk_below (g := gb135) (o := .cells #[.int .i64 x136000_2, .int .i64 x136001_2, .int .i64 x136002_2] 25 (0, 0)) (by (with_reducible repeat (first | refine blk_drewN ?_ _ | refine blk_drew ?_ | refine blk_alloc ?_ _)); exact BK135.out) hb); have n1_ := Aside0.mk (below_step (by repeat (first | (with_reducible first | exact HB.out | apply below_alloc | apply pw_below_drewN | apply below_drew1 | refine below_set ?_ GE135.out) | exact HB.out)) hb); clear BK135; clear HB; have BK135 := n0_; have HB := n1_; clear n0_ n1_; (try clear hb); (try clear hb2); (try clear hk); (try clear hi)) | ((with_reducible refine gate_dst (N := 10) rfl ?_); (try (refine gate_guard (by rfl) ?_; dsimp only)); refine box_event ?hg (N := 10) ?hd (cs := #[.int .i64 0, .int .i64 0, .int .i64 0]) (t := 25) ?hr ?_; (case hd => rfl); (case hg => rfl); (case hr => first | (go_simp; done) | (go_simp; rfl)); intro gb141 hg w35 hbox hb; have n0_ := Aside0.mk (blk_below (g := gb135) (o := .cells #[.int .i64 x136000_2, .int .i64 x136001_2, .int .i64 x136002_2] 25 (0, 0)) (by (with_reducible repeat (first | refine blk_drewN ?_ _ | refine blk_drew ?_ | refine blk_alloc ?_ _)); exact BK135.out) hb); have n1_ := Aside0.mk (below_step (by repeat (first | (with_reducible first | exact HB.out | apply below_alloc | apply pw_below_drewN | apply below_drew1 | refine below_set ?_ GE135.out) | exact HB.out)) hb); have n2_ := Aside0.mk (hbox); have n3_ := Aside0.mk ((by rw [hg]; exact (below_size (by repeat (first | (with_reducible first | exact HB.out | apply below_alloc | apply pw_below_drewN | apply below_drew1 | refine below_set ?_ GE135.out) | exact HB.out))) : w.heap.size ≤ gb141)); have n4_ := Aside0.mk ((by rw [hg]; exact (below_size (by repeat (first | (with_reducible first | exact HB.out | apply below_alloc | apply pw_below_drewN | apply below_drew1 | refine below_set ?_ GE135.out) | exact HB.out))) : w.heap.size ≤ gb141)); have n5_ := Aside0.mk ((by rw [hg]; exact Nat.ne_of_lt (blk_lt (g := gb135) (o := .cells #[.int .i64 x136000_2, .int .i64 x136001_2, .int .i64 x136002_2] 25 (0, 0)) (by (with_reducible repeat (first | refine blk_drewN ?_ _ | refine blk_drew ?_ | refine blk_alloc ?_ _)); exact BK135.out)) : gb135 ≠ gb141)); have n6_ := Aside0.mk ((by rw [hg]; exact Nat.ne_of_gt (blk_lt (g := gb135) (o := .cells #[.int .i64 x136000_2, .int .i64 x136001_2, .int .i64 x136002_2] 25 (0, 0)) (by (with_reducible repeat (first | refine blk_drewN ?_ _ | refine blk_drew ?_ | refine blk_alloc ?_ _)); exact BK135.out)) : gb141 ≠ gb135)); clear BK135; clear HB; have BK135 := n0_; have HB := n1_; have BK141 := n2_; have GW141 := n3_; have GE141 := n4_; have NB135_141 := n5_; have NB141_135 := n6_; clear n0_ n1_ n2_ n3_ n4_ n5_ n6_; clear hb hbox hg; have hnb36 := NB141_135.out; have hnc36 := NB135_141.out; have hcz37_0 : w35.cell? ⟨gb141, 0, none⟩ = some (.int .i64 0) := (blk_cell BK141.out 0).trans rfl; have hcz37_1 : w35.cell? ⟨gb141, 1, none⟩ = some (.int .i64 0) := (blk_cell BK141.out 1).trans rfl; have hcz37_2 : w35.cell? ⟨gb141, 2, none⟩ = some (.int .i64 0) := (blk_cell BK141.out 2).trans rfl; have hfz37_0 := blk_frozen BK141.out 0; have hfz37_1 := blk_frozen BK141.out 1; have hfz37_2 := blk_frozen BK141.out 2; have hcz38_0 : w35.cell? ⟨gb135, 0, none⟩ = some (.int .i64 x136000_2) := (blk_cell BK135.out 0).trans rfl; have hcz38_1 : w35.cell? ⟨gb135, 1, none⟩ = some (.int .i64 x136001_2) := (blk_cell BK135.out 1).trans rfl; have hcz38_2 : w35.cell? ⟨gb135, 2, none⟩ = some (.int .i64 x136002_2) := (blk_cell BK135.out 2).trans rfl; have hfz38_0 := blk_frozen BK135.out 0; have hfz38_1 := blk_frozen BK135.out 1; have hfz38_2 := blk_frozen BK135.out 2))
                            go_roundg k2
                            case measure => have := HJ2.out; have := HK2.out; omega
                            case rel => exact ⟨(wrap64 (x7_2 + (ji21))), (wrap64 (x39_2 + 1)), (t137), (t138), (t139), (by first | rfl | (simp; done) | (simp only [← hji21] <;> (first | rfl | simp)) | (simp [*]; done)), (by first | rfl | (simp; done) | (simp [*]; done)), H', ⟨by have := HJ2.out; have := HK2.out; omega⟩, ⟨by (with_reducible repeat (first | refine blk_drewN ?_ _ | refine blk_drew ?_ | refine blk_alloc ?_ _)); refine blk_put (cs := #[.int .i64 t137, .int .i64 t138, .int .i64 x136002_2]) ?_ 2 _ rfl; (with_reducible repeat (first | refine blk_drewN ?_ _ | refine blk_drew ?_ | refine blk_alloc ?_ _)); refine blk_put (cs := #[.int .i64 t137, .int .i64 x136001_2, .int .i64 x136002_2]) ?_ 1 _ rfl; (with_reducible repeat (first | refine blk_drewN ?_ _ | refine blk_drew ?_ | refine blk_alloc ?_ _)); refine blk_put (cs := #[.int .i64 x136000_2, .int .i64 x136001_2, .int .i64 x136002_2]) ?_ 0 _ rfl; (with_reducible repeat (first | refine blk_drewN ?_ _ | refine blk_drew ?_ | refine blk_alloc ?_ _)); refine blk_far ?_ NB135_141.out _; (with_reducible repeat (first | refine blk_drewN ?_ _ | refine blk_drew ?_ | refine blk_alloc ?_ _)); refine blk_far ?_ NB135_141.out _; (with_reducible repeat (first | refine blk_drewN ?_ _ | refine blk_drew ?_ | refine blk_alloc ?_ _)); refine blk_far ?_ NB135_141.out _; (with_reducible repeat (first | refine blk_drewN ?_ _ | refine blk_drew ?_ | refine blk_alloc ?_ _)); exact BK135.out⟩, ⟨by repeat (first | (with_reducible first | exact HB.out | apply below_alloc | apply pw_below_drewN | apply below_drew1 | refine below_set ?_ GE135.out | refine below_set ?_ GE141.out) | exact HB.out)⟩⟩
                        · rw [if_neg c25] at H
                          have c25b0 : ((wrap64 ((wrap64 (t137 + t139)) + (wrap64 (x7_2 + (ji21))))) == a0) = false := beq_eq_false_iff_ne.mpr c25
                          have c25b1 : ((wrap64 ((wrap64 (t137 + t139)) + (wrap64 (x7_2 + (ji21))))) != a0) = true := bne_iff_ne.mpr c25
                          obtain rfl := Option.some.inj H
                          have p136 : 0 ≤ (x39_2 : Int) := of_decide_eq_true (by first | (with_reducible assumption) | assumption)
                          have q136 : x39_2 < (l1.length : Int) := of_decide_eq_true (by first | (with_reducible assumption) | assumption)
                          obtain ⟨ad136, e136, hx136_0⟩ := Kd.at_int HR1.out x39_2 p136 q136
                          cases e136
                          replace hx136_0 := (HB.out.cell (World.block_lt_of_cell? w _ hx136_0)).trans hx136_0
                          replace p136 := eq_true p136
                          replace q136 := eq_true q136
                          have hcz39_0 : wr.cell? ⟨gb135, 0, none⟩ = some (.int .i64 x136000_2) := (blk_cell BK135.out 0).trans rfl
                          have hcz39_1 : wr.cell? ⟨gb135, 1, none⟩ = some (.int .i64 x136001_2) := (blk_cell BK135.out 1).trans rfl
                          have hcz39_2 : wr.cell? ⟨gb135, 2, none⟩ = some (.int .i64 x136002_2) := (blk_cell BK135.out 2).trans rfl
                          have hfz39_0 := blk_frozen BK135.out 0
                          have hfz39_1 := blk_frozen BK135.out 1
                          have hfz39_2 := blk_frozen BK135.out 2
                          go_wp2_with (first | ((with_reducible refine gate_callee (f := 11) rfl ?_); refine goesL_ (some 53) rfl rfl Try.func11 (by kernel_rfl) rfl #[.agg #[.int .i64 x136000_2, .int .i64 x136001_2, .int .i64 x136002_2], .int .i64 ji21] rfl (by (try simp only [List.map_toArray, List.map_cons, List.map_nil]); first | done | (simp only [hji21]; rfl) | rfl | (simp only [List.length_drop, List.length_take]; rfl)) ?_; (with_reducible refine (window_Spend.calls x136000_2 x136001_2 x136002_2 ji21 t137 t138 t139 true _ A23.out).mono ?_); rintro e w40 ⟨rfl, hb⟩; refine ⟨_, rfl, ?_⟩; have n0_ := Aside0.mk (blk_below (g := gb135) (o := .cells #[.int .i64 x136000_2, .int .i64 x136001_2, .int .i64 x136002_2] 25 (0, 0)) (by (with_reducible repeat (first | refine blk_drewN ?_ _ | refine blk_drew ?_ | refine blk_alloc ?_ _)); exact BK135.out) hb); have n1_ := Aside0.mk (below_step (by repeat (first | (with_reducible first | exact HB.out | apply below_alloc | apply pw_below_drewN | apply below_drew1 | refine below_set ?_ GE135.out) | exact HB.out)) hb); clear BK135; clear HB; have BK135 := n0_; have HB := n1_; clear n0_ n1_; (try clear hb); (try clear hb2); (try clear hk); (try clear hi)) | ((with_reducible refine gate_dst (N := 10) rfl ?_); (try (refine gate_guard (by rfl) ?_; dsimp only)); refine box_event ?hg (N := 10) ?hd (cs := #[.int .i64 0, .int .i64 0, .int .i64 0]) (t := 25) ?hr ?_; (case hd => rfl); (case hg => rfl); (case hr => first | (go_simp; done) | (go_simp; rfl)); intro gb141 hg w41 hbox hb; have n0_ := Aside0.mk (blk_below (g := gb135) (o := .cells #[.int .i64 x136000_2, .int .i64 x136001_2, .int .i64 x136002_2] 25 (0, 0)) (by (with_reducible repeat (first | refine blk_drewN ?_ _ | refine blk_drew ?_ | refine blk_alloc ?_ _)); exact BK135.out) hb); have n1_ := Aside0.mk (below_step (by repeat (first | (with_reducible first | exact HB.out | apply below_alloc | apply pw_below_drewN | apply below_drew1 | refine below_set ?_ GE135.out) | exact HB.out)) hb); have n2_ := Aside0.mk (hbox); have n3_ := Aside0.mk ((by rw [hg]; exact (below_size (by repeat (first | (with_reducible first | exact HB.out | apply below_alloc | apply pw_below_drewN | apply below_drew1 | refine below_set ?_ GE135.out) | exact HB.out))) : w.heap.size ≤ gb141)); have n4_ := Aside0.mk ((by rw [hg]; exact (below_size (by repeat (first | (with_reducible first | exact HB.out | apply below_alloc | apply pw_below_drewN | apply below_drew1 | refine below_set ?_ GE135.out) | exact HB.out))) : w.heap.size ≤ gb141)); have n5_ := Aside0.mk ((by rw [hg]; exact Nat.ne_of_lt (blk_lt (g := gb135) (o := .cells #[.int .i64 x136000_2, .int .i64 x136001_2, .int .i64 x136002_2] 25 (0, 0)) (by (with_reducible repeat (first | refine blk_drewN ?_ _ | refine blk_drew ?_ | refine blk_alloc ?_ _)); exact BK135.out)) : gb135 ≠ gb141)); have n6_ := Aside0.mk ((by rw [hg]; exact Nat.ne_of_gt (blk_lt (g := gb135) (o := .cells #[.int .i64 x136000_2, .int .i64 x136001_2, .int .i64 x136002_2] 25 (0, 0)) (by (with_reducible repeat (first | refine blk_drewN ?_ _ | refine blk_drew ?_ | refine blk_alloc ?_ _)); exact BK135.out)) : gb141 ≠ gb135)); clear BK135; clear HB; have BK135 := n0_; have HB := n1_; have BK141 := n2_; have GW141 := n3_; have GE141 := n4_; have NB135_141 := n5_; have NB141_135 := n6_; clear n0_ n1_ n2_ n3_ n4_ n5_ n6_; clear hb hbox hg; have hnb42 := NB141_135.out; have hnc42 := NB135_141.out; have hcz43_0 : w41.cell? ⟨gb141, 0, none⟩ = some (.int .i64 0) := (blk_cell BK141.out 0).trans rfl; have hcz43_1 : w41.cell? ⟨gb141, 1, none⟩ = some (.int .i64 0) := (blk_cell BK141.out 1).trans rfl; have hcz43_2 : w41.cell? ⟨gb141, 2, none⟩ = some (.int .i64 0) := (blk_cell BK141.out 2).trans rfl; have hfz43_0 := blk_frozen BK141.out 0; have hfz43_1 := blk_frozen BK141.out 1; have hfz43_2 := blk_frozen BK141.out 2; have hcz44_0 : w41.cell? ⟨gb135, 0, none⟩ = some (.int .i64 x136000_2) := (blk_cell BK135.out 0).trans rfl; have hcz44_1 : w41.cell? ⟨gb135, 1, none⟩ = some (.int .i64 x136001_2) := (blk_cell BK135.out 1).trans rfl; have hcz44_2 : w41.cell? ⟨gb135, 2, none⟩ = some (.int .i64 x136002_2) := (blk_cell BK135.out 2).trans rfl; have hfz44_0 := blk_frozen BK135.out 0; have hfz44_1 := blk_frozen BK135.out 1; have hfz44_2 := blk_frozen BK135.out 2))
                          go_ret
                          exact ⟨by first | rfl | (simp [errW_none, errW_some] <;> rfl) | (simp only [← hji20, ← hji21]; first | rfl | (simp [errW_none, errW_some] <;> rfl)) | (simp [*, errW_none, errW_some] <;> rfl), by repeat (first | (with_reducible first | exact HB.out | apply below_alloc | apply pw_below_drewN | apply below_drew1 | refine below_set ?_ GE135.out | refine below_set ?_ GE141.out) | exact HB.out)⟩
                      · replace c24 := Bool.eq_false_iff.mpr c24
                        subst c24
                        have H1 : (if (ji21) ≤ x136000_2 then (some false) else (if (wrap64 ((wrap64 (x136000_2 + x136002_2)) + x7_2)) = a0 then (if x136000_2 < 0 then (some false) else (bywashlaw12_WindowEven.l0 k2 a0 x7_2 l1 (l1.length : Int) (wrap64 (x39_2 + 1)) x136000_2 x136001_2 x136002_2)) else (some false))) = some r := by rw [if_neg (show ¬ (false = true) by decide)] at H; exact H
                        clear H
                        have H := H1
                        clear H1
                        by_cases c45 : (ji21) ≤ x136000_2
                        · rw [if_pos c45] at H
                          have c45b0 : decide ((ji21) ≤ x136000_2) = true := decide_eq_true c45
                          clear c45
                          obtain rfl := Option.some.inj H
                          have p136 : 0 ≤ (x39_2 : Int) := of_decide_eq_true (by first | (with_reducible assumption) | assumption)
                          have q136 : x39_2 < (l1.length : Int) := of_decide_eq_true (by first | (with_reducible assumption) | assumption)
                          obtain ⟨ad136, e136, hx136_0⟩ := Kd.at_int HR1.out x39_2 p136 q136
                          cases e136
                          replace hx136_0 := (HB.out.cell (World.block_lt_of_cell? w _ hx136_0)).trans hx136_0
                          replace p136 := eq_true p136
                          replace q136 := eq_true q136
                          have hcz46_0 : wr.cell? ⟨gb135, 0, none⟩ = some (.int .i64 x136000_2) := (blk_cell BK135.out 0).trans rfl
                          have hcz46_1 : wr.cell? ⟨gb135, 1, none⟩ = some (.int .i64 x136001_2) := (blk_cell BK135.out 1).trans rfl
                          have hcz46_2 : wr.cell? ⟨gb135, 2, none⟩ = some (.int .i64 x136002_2) := (blk_cell BK135.out 2).trans rfl
                          have hfz46_0 := blk_frozen BK135.out 0
                          have hfz46_1 := blk_frozen BK135.out 1
                          have hfz46_2 := blk_frozen BK135.out 2
                          go_wp2_with (first | ((with_reducible refine gate_callee (f := 11) rfl ?_); refine goesL_ (some 53) rfl rfl Try.func11 (by kernel_rfl) rfl #[.agg #[.int .i64 x136000_2, .int .i64 x136001_2, .int .i64 x136002_2], .int .i64 ji21] rfl (by (try simp only [List.map_toArray, List.map_cons, List.map_nil]); first | done | (simp only [hji21]; rfl) | rfl | (simp only [List.length_drop, List.length_take]; rfl)) ?_; (with_reducible refine (window_Spend.calls x136000_2 x136001_2 x136002_2 ji21 t137 t138 t139 false _ A23.out).mono ?_); rintro e w47 ⟨rfl, hb⟩; refine ⟨_, rfl, ?_⟩; have n0_ := Aside0.mk (blk_below (g := gb135) (o := .cells #[.int .i64 x136000_2, .int .i64 x136001_2, .int .i64 x136002_2] 25 (0, 0)) (by (with_reducible repeat (first | refine blk_drewN ?_ _ | refine blk_drew ?_ | refine blk_alloc ?_ _)); exact BK135.out) hb); have n1_ := Aside0.mk (below_step (by repeat (first | (with_reducible first | exact HB.out | apply below_alloc | apply pw_below_drewN | apply below_drew1 | refine below_set ?_ GE135.out) | exact HB.out)) hb); clear BK135; clear HB; have BK135 := n0_; have HB := n1_; clear n0_ n1_; (try clear hb); (try clear hb2); (try clear hk); (try clear hi)) | ((with_reducible refine gate_dst (N := 10) rfl ?_); (try (refine gate_guard (by rfl) ?_; dsimp only)); refine box_event ?hg (N := 10) ?hd (cs := #[.int .i64 0, .int .i64 0, .int .i64 0]) (t := 25) ?hr ?_; (case hd => rfl); (case hg => rfl); (case hr => first | (go_simp; done) | (go_simp; rfl)); intro gb141 hg w48 hbox hb; have n0_ := Aside0.mk (blk_below (g := gb135) (o := .cells #[.int .i64 x136000_2, .int .i64 x136001_2, .int .i64 x136002_2] 25 (0, 0)) (by (with_reducible repeat (first | refine blk_drewN ?_ _ | refine blk_drew ?_ | refine blk_alloc ?_ _)); exact BK135.out) hb); have n1_ := Aside0.mk (below_step (by repeat (first | (with_reducible first | exact HB.out | apply below_alloc | apply pw_below_drewN | apply below_drew1 | refine below_set ?_ GE135.out) | exact HB.out)) hb); have n2_ := Aside0.mk (hbox); have n3_ := Aside0.mk ((by rw [hg]; exact (below_size (by repeat (first | (with_reducible first | exact HB.out | apply below_alloc | apply pw_below_drewN | apply below_drew1 | refine below_set ?_ GE135.out) | exact HB.out))) : w.heap.size ≤ gb141)); have n4_ := Aside0.mk ((by rw [hg]; exact (below_size (by repeat (first | (with_reducible first | exact HB.out | apply below_alloc | apply pw_below_drewN | apply below_drew1 | refine below_set ?_ GE135.out) | exact HB.out))) : w.heap.size ≤ gb141)); have n5_ := Aside0.mk ((by rw [hg]; exact Nat.ne_of_lt (blk_lt (g := gb135) (o := .cells #[.int .i64 x136000_2, .int .i64 x136001_2, .int .i64 x136002_2] 25 (0, 0)) (by (with_reducible repeat (first | refine blk_drewN ?_ _ | refine blk_drew ?_ | refine blk_alloc ?_ _)); exact BK135.out)) : gb135 ≠ gb141)); have n6_ := Aside0.mk ((by rw [hg]; exact Nat.ne_of_gt (blk_lt (g := gb135) (o := .cells #[.int .i64 x136000_2, .int .i64 x136001_2, .int .i64 x136002_2] 25 (0, 0)) (by (with_reducible repeat (first | refine blk_drewN ?_ _ | refine blk_drew ?_ | refine blk_alloc ?_ _)); exact BK135.out)) : gb141 ≠ gb135)); clear BK135; clear HB; have BK135 := n0_; have HB := n1_; have BK141 := n2_; have GW141 := n3_; have GE141 := n4_; have NB135_141 := n5_; have NB141_135 := n6_; clear n0_ n1_ n2_ n3_ n4_ n5_ n6_; clear hb hbox hg; have hnb49 := NB141_135.out; have hnc49 := NB135_141.out; have hcz50_0 : w48.cell? ⟨gb141, 0, none⟩ = some (.int .i64 0) := (blk_cell BK141.out 0).trans rfl; have hcz50_1 : w48.cell? ⟨gb141, 1, none⟩ = some (.int .i64 0) := (blk_cell BK141.out 1).trans rfl; have hcz50_2 : w48.cell? ⟨gb141, 2, none⟩ = some (.int .i64 0) := (blk_cell BK141.out 2).trans rfl; have hfz50_0 := blk_frozen BK141.out 0; have hfz50_1 := blk_frozen BK141.out 1; have hfz50_2 := blk_frozen BK141.out 2; have hcz51_0 : w48.cell? ⟨gb135, 0, none⟩ = some (.int .i64 x136000_2) := (blk_cell BK135.out 0).trans rfl; have hcz51_1 : w48.cell? ⟨gb135, 1, none⟩ = some (.int .i64 x136001_2) := (blk_cell BK135.out 1).trans rfl; have hcz51_2 : w48.cell? ⟨gb135, 2, none⟩ = some (.int .i64 x136002_2) := (blk_cell BK135.out 2).trans rfl; have hfz51_0 := blk_frozen BK135.out 0; have hfz51_1 := blk_frozen BK135.out 1; have hfz51_2 := blk_frozen BK135.out 2))
                          go_ret
                          exact ⟨by first | rfl | (simp [errW_none, errW_some] <;> rfl) | (simp only [← hji20, ← hji21]; first | rfl | (simp [errW_none, errW_some] <;> rfl)) | (simp [*, errW_none, errW_some] <;> rfl), by repeat (first | (with_reducible first | exact HB.out | apply below_alloc | apply pw_below_drewN | apply below_drew1 | refine below_set ?_ GE135.out | refine below_set ?_ GE141.out) | exact HB.out)⟩
                        · rw [if_neg c45] at H
                          have c45b0 : decide ((ji21) ≤ x136000_2) = false := decide_eq_false c45
                          clear c45
                          by_cases c52 : (wrap64 ((wrap64 (x136000_2 + x136002_2)) + x7_2)) = a0
                          · rw [if_pos c52] at H
                            have c52b0 : ((wrap64 ((wrap64 (x136000_2 + x136002_2)) + x7_2)) == a0) = true := beq_iff_eq.mpr c52
                            have c52b1 : ((wrap64 ((wrap64 (x136000_2 + x136002_2)) + x7_2)) != a0) = false := bne_eq_false_iff_eq.mpr c52
                            clear c52
                            by_cases c53 : x136000_2 < 0
                            · rw [if_pos c53] at H
                              have c53b0 : decide (x136000_2 < 0) = true := decide_eq_true c53
                              clear c53
                              obtain rfl := Option.some.inj H
                              have p136 : 0 ≤ (x39_2 : Int) := of_decide_eq_true (by first | (with_reducible assumption) | assumption)
                              have q136 : x39_2 < (l1.length : Int) := of_decide_eq_true (by first | (with_reducible assumption) | assumption)
                              obtain ⟨ad136, e136, hx136_0⟩ := Kd.at_int HR1.out x39_2 p136 q136
                              cases e136
                              replace hx136_0 := (HB.out.cell (World.block_lt_of_cell? w _ hx136_0)).trans hx136_0
                              replace p136 := eq_true p136
                              replace q136 := eq_true q136
                              have hcz54_0 : wr.cell? ⟨gb135, 0, none⟩ = some (.int .i64 x136000_2) := (blk_cell BK135.out 0).trans rfl
                              have hcz54_1 : wr.cell? ⟨gb135, 1, none⟩ = some (.int .i64 x136001_2) := (blk_cell BK135.out 1).trans rfl
                              have hcz54_2 : wr.cell? ⟨gb135, 2, none⟩ = some (.int .i64 x136002_2) := (blk_cell BK135.out 2).trans rfl
                              have hfz54_0 := blk_frozen BK135.out 0
                              have hfz54_1 := blk_frozen BK135.out 1
                              have hfz54_2 := blk_frozen BK135.out 2
                              go_wp2_with (first | ((with_reducible refine gate_callee (f := 11) rfl ?_); refine goesL_ (some 53) rfl rfl Try.func11 (by kernel_rfl) rfl #[.agg #[.int .i64 x136000_2, .int .i64 x136001_2, .int .i64 x136002_2], .int .i64 ji21] rfl (by (try simp only [List.map_toArray, List.map_cons, List.map_nil]); first | done | (simp only [hji21]; rfl) | rfl | (simp only [List.length_drop, List.length_take]; rfl)) ?_; (with_reducible refine (window_Spend.calls x136000_2 x136001_2 x136002_2 ji21 t137 t138 t139 false _ A23.out).mono ?_); rintro e w55 ⟨rfl, hb⟩; refine ⟨_, rfl, ?_⟩; have n0_ := Aside0.mk (blk_below (g := gb135) (o := .cells #[.int .i64 x136000_2, .int .i64 x136001_2, .int .i64 x136002_2] 25 (0, 0)) (by (with_reducible repeat (first | refine blk_drewN ?_ _ | refine blk_drew ?_ | refine blk_alloc ?_ _)); exact BK135.out) hb); have n1_ := Aside0.mk (below_step (by repeat (first | (with_reducible first | exact HB.out | apply below_alloc | apply pw_below_drewN | apply below_drew1 | refine below_set ?_ GE135.out) | exact HB.out)) hb); clear BK135; clear HB; have BK135 := n0_; have HB := n1_; clear n0_ n1_; (try clear hb); (try clear hb2); (try clear hk); (try clear hi)) | ((with_reducible refine gate_dst (N := 10) rfl ?_); (try (refine gate_guard (by rfl) ?_; dsimp only)); refine box_event ?hg (N := 10) ?hd (cs := #[.int .i64 0, .int .i64 0, .int .i64 0]) (t := 25) ?hr ?_; (case hd => rfl); (case hg => rfl); (case hr => first | (go_simp; done) | (go_simp; rfl)); intro gb141 hg w56 hbox hb; have n0_ := Aside0.mk (blk_below (g := gb135) (o := .cells #[.int .i64 x136000_2, .int .i64 x136001_2, .int .i64 x136002_2] 25 (0, 0)) (by (with_reducible repeat (first | refine blk_drewN ?_ _ | refine blk_drew ?_ | refine blk_alloc ?_ _)); exact BK135.out) hb); have n1_ := Aside0.mk (below_step (by repeat (first | (with_reducible first | exact HB.out | apply below_alloc | apply pw_below_drewN | apply below_drew1 | refine below_set ?_ GE135.out) | exact HB.out)) hb); have n2_ := Aside0.mk (hbox); have n3_ := Aside0.mk ((by rw [hg]; exact (below_size (by repeat (first | (with_reducible first | exact HB.out | apply below_alloc | apply pw_below_drewN | apply below_drew1 | refine below_set ?_ GE135.out) | exact HB.out))) : w.heap.size ≤ gb141)); have n4_ := Aside0.mk ((by rw [hg]; exact (below_size (by repeat (first | (with_reducible first | exact HB.out | apply below_alloc | apply pw_below_drewN | apply below_drew1 | refine below_set ?_ GE135.out) | exact HB.out))) : w.heap.size ≤ gb141)); have n5_ := Aside0.mk ((by rw [hg]; exact Nat.ne_of_lt (blk_lt (g := gb135) (o := .cells #[.int .i64 x136000_2, .int .i64 x136001_2, .int .i64 x136002_2] 25 (0, 0)) (by (with_reducible repeat (first | refine blk_drewN ?_ _ | refine blk_drew ?_ | refine blk_alloc ?_ _)); exact BK135.out)) : gb135 ≠ gb141)); have n6_ := Aside0.mk ((by rw [hg]; exact Nat.ne_of_gt (blk_lt (g := gb135) (o := .cells #[.int .i64 x136000_2, .int .i64 x136001_2, .int .i64 x136002_2] 25 (0, 0)) (by (with_reducible repeat (first | refine blk_drewN ?_ _ | refine blk_drew ?_ | refine blk_alloc ?_ _)); exact BK135.out)) : gb141 ≠ gb135)); clear BK135; clear HB; have BK135 := n0_; have HB := n1_; have BK141 := n2_; have GW141 := n3_; have GE141 := n4_; have NB135_141 := n5_; have NB141_135 := n6_; clear n0_ n1_ n2_ n3_ n4_ n5_ n6_; clear hb hbox hg; have hnb57 := NB141_135.out; have hnc57 := NB135_141.out; have hcz58_0 : w56.cell? ⟨gb141, 0, none⟩ = some (.int .i64 0) := (blk_cell BK141.out 0).trans rfl; have hcz58_1 : w56.cell? ⟨gb141, 1, none⟩ = some (.int .i64 0) := (blk_cell BK141.out 1).trans rfl; have hcz58_2 : w56.cell? ⟨gb141, 2, none⟩ = some (.int .i64 0) := (blk_cell BK141.out 2).trans rfl; have hfz58_0 := blk_frozen BK141.out 0; have hfz58_1 := blk_frozen BK141.out 1; have hfz58_2 := blk_frozen BK141.out 2; have hcz59_0 : w56.cell? ⟨gb135, 0, none⟩ = some (.int .i64 x136000_2) := (blk_cell BK135.out 0).trans rfl; have hcz59_1 : w56.cell? ⟨gb135, 1, none⟩ = some (.int .i64 x136001_2) := (blk_cell BK135.out 1).trans rfl; have hcz59_2 : w56.cell? ⟨gb135, 2, none⟩ = some (.int .i64 x136002_2) := (blk_cell BK135.out 2).trans rfl; have hfz59_0 := blk_frozen BK135.out 0; have hfz59_1 := blk_frozen BK135.out 1; have hfz59_2 := blk_frozen BK135.out 2))
                              go_ret
                              exact ⟨by first | rfl | (simp [errW_none, errW_some] <;> rfl) | (simp only [← hji20, ← hji21]; first | rfl | (simp [errW_none, errW_some] <;> rfl)) | (simp [*, errW_none, errW_some] <;> rfl), by repeat (first | (with_reducible first | exact HB.out | apply below_alloc | apply pw_below_drewN | apply below_drew1 | refine below_set ?_ GE135.out | refine below_set ?_ GE141.out) | exact HB.out)⟩
                            · rw [if_neg c53] at H
                              have c53b0 : decide (x136000_2 < 0) = false := decide_eq_false c53
                              clear c53
                              have H' := Aside0.mk H
                              clear H
                              have p136 : 0 ≤ (x39_2 : Int) := of_decide_eq_true (by first | (with_reducible assumption) | assumption)
                              have q136 : x39_2 < (l1.length : Int) := of_decide_eq_true (by first | (with_reducible assumption) | assumption)
                              obtain ⟨ad136, e136, hx136_0⟩ := Kd.at_int HR1.out x39_2 p136 q136
                              cases e136
                              replace hx136_0 := (HB.out.cell (World.block_lt_of_cell? w _ hx136_0)).trans hx136_0
                              replace p136 := eq_true p136
                              replace q136 := eq_true q136
                              have hcz60_0 : wr.cell? ⟨gb135, 0, none⟩ = some (.int .i64 x136000_2) := (blk_cell BK135.out 0).trans rfl
                              have hcz60_1 : wr.cell? ⟨gb135, 1, none⟩ = some (.int .i64 x136001_2) := (blk_cell BK135.out 1).trans rfl
                              have hcz60_2 : wr.cell? ⟨gb135, 2, none⟩ = some (.int .i64 x136002_2) := (blk_cell BK135.out 2).trans rfl
                              have hfz60_0 := blk_frozen BK135.out 0
                              have hfz60_1 := blk_frozen BK135.out 1
                              have hfz60_2 := blk_frozen BK135.out 2
                              go_wp2_with (first | ((with_reducible refine gate_callee (f := 11) rfl ?_); refine goesL_ (some 53) rfl rfl Try.func11 (by kernel_rfl) rfl #[.agg #[.int .i64 x136000_2, .int .i64 x136001_2, .int .i64 x136002_2], .int .i64 ji21] rfl (by (try simp only [List.map_toArray, List.map_cons, List.map_nil]); first | done | (simp only [hji21]; rfl) | rfl | (simp only [List.length_drop, List.length_take]; rfl)) ?_; (with_reducible refine (window_Spend.calls x136000_2 x136001_2 x136002_2 ji21 t137 t138 t139 false _ A23.out).mono ?_); rintro e w61 ⟨rfl, hb⟩; refine ⟨_, rfl, ?_⟩; have n0_ := Aside0.mk (blk_below (g := gb135) (o := .cells #[.int .i64 x136000_2, .int .i64 x136001_2, .int .i64 x136002_2] 25 (0, 0)) (by (with_reducible repeat (first | refine blk_drewN ?_ _ | refine blk_drew ?_ | refine blk_alloc ?_ _)); exact BK135.out) hb); have n1_ := Aside0.mk (below_step (by repeat (first | (with_reducible first | exact HB.out | apply below_alloc | apply pw_below_drewN | apply below_drew1 | refine below_set ?_ GE135.out) | exact HB.out)) hb); clear BK135; clear HB; have BK135 := n0_; have HB := n1_; clear n0_ n1_; (try clear hb); (try clear hb2); (try clear hk); (try clear hi)) | ((with_reducible refine gate_dst (N := 10) rfl ?_); (try (refine gate_guard (by rfl) ?_; dsimp only)); refine box_event ?hg (N := 10) ?hd (cs := #[.int .i64 0, .int .i64 0, .int .i64 0]) (t := 25) ?hr ?_; (case hd => rfl); (case hg => rfl); (case hr => first | (go_simp; done) | (go_simp; rfl)); intro gb141 hg w62 hbox hb; have n0_ := Aside0.mk (blk_below (g := gb135) (o := .cells #[.int .i64 x136000_2, .int .i64 x136001_2, .int .i64 x136002_2] 25 (0, 0)) (by (with_reducible repeat (first | refine blk_drewN ?_ _ | refine blk_drew ?_ | refine blk_alloc ?_ _)); exact BK135.out) hb); have n1_ := Aside0.mk (below_step (by repeat (first | (with_reducible first | exact HB.out | apply below_alloc | apply pw_below_drewN | apply below_drew1 | refine below_set ?_ GE135.out) | exact HB.out)) hb); have n2_ := Aside0.mk (hbox); have n3_ := Aside0.mk ((by rw [hg]; exact (below_size (by repeat (first | (with_reducible first | exact HB.out | apply below_alloc | apply pw_below_drewN | apply below_drew1 | refine below_set ?_ GE135.out) | exact HB.out))) : w.heap.size ≤ gb141)); have n4_ := Aside0.mk ((by rw [hg]; exact (below_size (by repeat (first | (with_reducible first | exact HB.out | apply below_alloc | apply pw_below_drewN | apply below_drew1 | refine below_set ?_ GE135.out) | exact HB.out))) : w.heap.size ≤ gb141)); have n5_ := Aside0.mk ((by rw [hg]; exact Nat.ne_of_lt (blk_lt (g := gb135) (o := .cells #[.int .i64 x136000_2, .int .i64 x136001_2, .int .i64 x136002_2] 25 (0, 0)) (by (with_reducible repeat (first | refine blk_drewN ?_ _ | refine blk_drew ?_ | refine blk_alloc ?_ _)); exact BK135.out)) : gb135 ≠ gb141)); have n6_ := Aside0.mk ((by rw [hg]; exact Nat.ne_of_gt (blk_lt (g := gb135) (o := .cells #[.int .i64 x136000_2, .int .i64 x136001_2, .int .i64 x136002_2] 25 (0, 0)) (by (with_reducible repeat (first | refine blk_drewN ?_ _ | refine blk_drew ?_ | refine blk_alloc ?_ _)); exact BK135.out)) : gb141 ≠ gb135)); clear BK135; clear HB; have BK135 := n0_; have HB := n1_; have BK141 := n2_; have GW141 := n3_; have GE141 := n4_; have NB135_141 := n5_; have NB141_135 := n6_; clear n0_ n1_ n2_ n3_ n4_ n5_ n6_; clear hb hbox hg; have hnb63 := NB141_135.out; have hnc63 := NB135_141.out; have hcz64_0 : w62.cell? ⟨gb141, 0, none⟩ = some (.int .i64 0) := (blk_cell BK141.out 0).trans rfl; have hcz64_1 : w62.cell? ⟨gb141, 1, none⟩ = some (.int .i64 0) := (blk_cell BK141.out 1).trans rfl; have hcz64_2 : w62.cell? ⟨gb141, 2, none⟩ = some (.int .i64 0) := (blk_cell BK141.out 2).trans rfl; have hfz64_0 := blk_frozen BK141.out 0; have hfz64_1 := blk_frozen BK141.out 1; have hfz64_2 := blk_frozen BK141.out 2; have hcz65_0 : w62.cell? ⟨gb135, 0, none⟩ = some (.int .i64 x136000_2) := (blk_cell BK135.out 0).trans rfl; have hcz65_1 : w62.cell? ⟨gb135, 1, none⟩ = some (.int .i64 x136001_2) := (blk_cell BK135.out 1).trans rfl; have hcz65_2 : w62.cell? ⟨gb135, 2, none⟩ = some (.int .i64 x136002_2) := (blk_cell BK135.out 2).trans rfl; have hfz65_0 := blk_frozen BK135.out 0; have hfz65_1 := blk_frozen BK135.out 1; have hfz65_2 := blk_frozen BK135.out 2))
                              go_roundg k2
                              case measure => have := HJ2.out; have := HK2.out; omega
                              case rel => exact ⟨(x7_2), (wrap64 (x39_2 + 1)), (x136000_2), (x136001_2), (x136002_2), (by first | rfl | (simp; done) | (simp [*]; done)), (by first | rfl | (simp; done) | (simp [*]; done)), H', ⟨by have := HJ2.out; have := HK2.out; omega⟩, ⟨by (with_reducible repeat (first | refine blk_drewN ?_ _ | refine blk_drew ?_ | refine blk_alloc ?_ _)); refine blk_far ?_ NB135_141.out _; (with_reducible repeat (first | refine blk_drewN ?_ _ | refine blk_drew ?_ | refine blk_alloc ?_ _)); refine blk_far ?_ NB135_141.out _; (with_reducible repeat (first | refine blk_drewN ?_ _ | refine blk_drew ?_ | refine blk_alloc ?_ _)); refine blk_far ?_ NB135_141.out _; (with_reducible repeat (first | refine blk_drewN ?_ _ | refine blk_drew ?_ | refine blk_alloc ?_ _)); exact BK135.out⟩, ⟨by repeat (first | (with_reducible first | exact HB.out | apply below_alloc | apply pw_below_drewN | apply below_drew1 | refine below_set ?_ GE135.out | refine below_set ?_ GE141.out) | exact HB.out)⟩⟩
                          · rw [if_neg c52] at H
                            have c52b0 : ((wrap64 ((wrap64 (x136000_2 + x136002_2)) + x7_2)) == a0) = false := beq_eq_false_iff_ne.mpr c52
                            have c52b1 : ((wrap64 ((wrap64 (x136000_2 + x136002_2)) + x7_2)) != a0) = true := bne_iff_ne.mpr c52
                            obtain rfl := Option.some.inj H
                            have p136 : 0 ≤ (x39_2 : Int) := of_decide_eq_true (by first | (with_reducible assumption) | assumption)
                            have q136 : x39_2 < (l1.length : Int) := of_decide_eq_true (by first | (with_reducible assumption) | assumption)
                            obtain ⟨ad136, e136, hx136_0⟩ := Kd.at_int HR1.out x39_2 p136 q136
                            cases e136
                            replace hx136_0 := (HB.out.cell (World.block_lt_of_cell? w _ hx136_0)).trans hx136_0
                            replace p136 := eq_true p136
                            replace q136 := eq_true q136
                            have hcz66_0 : wr.cell? ⟨gb135, 0, none⟩ = some (.int .i64 x136000_2) := (blk_cell BK135.out 0).trans rfl
                            have hcz66_1 : wr.cell? ⟨gb135, 1, none⟩ = some (.int .i64 x136001_2) := (blk_cell BK135.out 1).trans rfl
                            have hcz66_2 : wr.cell? ⟨gb135, 2, none⟩ = some (.int .i64 x136002_2) := (blk_cell BK135.out 2).trans rfl
                            have hfz66_0 := blk_frozen BK135.out 0
                            have hfz66_1 := blk_frozen BK135.out 1
                            have hfz66_2 := blk_frozen BK135.out 2
                            go_wp2_with (first | ((with_reducible refine gate_callee (f := 11) rfl ?_); refine goesL_ (some 53) rfl rfl Try.func11 (by kernel_rfl) rfl #[.agg #[.int .i64 x136000_2, .int .i64 x136001_2, .int .i64 x136002_2], .int .i64 ji21] rfl (by (try simp only [List.map_toArray, List.map_cons, List.map_nil]); first | done | (simp only [hji21]; rfl) | rfl | (simp only [List.length_drop, List.length_take]; rfl)) ?_; (with_reducible refine (window_Spend.calls x136000_2 x136001_2 x136002_2 ji21 t137 t138 t139 false _ A23.out).mono ?_); rintro e w67 ⟨rfl, hb⟩; refine ⟨_, rfl, ?_⟩; have n0_ := Aside0.mk (blk_below (g := gb135) (o := .cells #[.int .i64 x136000_2, .int .i64 x136001_2, .int .i64 x136002_2] 25 (0, 0)) (by (with_reducible repeat (first | refine blk_drewN ?_ _ | refine blk_drew ?_ | refine blk_alloc ?_ _)); exact BK135.out) hb); have n1_ := Aside0.mk (below_step (by repeat (first | (with_reducible first | exact HB.out | apply below_alloc | apply pw_below_drewN | apply below_drew1 | refine below_set ?_ GE135.out) | exact HB.out)) hb); clear BK135; clear HB; have BK135 := n0_; have HB := n1_; clear n0_ n1_; (try clear hb); (try clear hb2); (try clear hk); (try clear hi)) | ((with_reducible refine gate_dst (N := 10) rfl ?_); (try (refine gate_guard (by rfl) ?_; dsimp only)); refine box_event ?hg (N := 10) ?hd (cs := #[.int .i64 0, .int .i64 0, .int .i64 0]) (t := 25) ?hr ?_; (case hd => rfl); (case hg => rfl); (case hr => first | (go_simp; done) | (go_simp; rfl)); intro gb141 hg w68 hbox hb; have n0_ := Aside0.mk (blk_below (g := gb135) (o := .cells #[.int .i64 x136000_2, .int .i64 x136001_2, .int .i64 x136002_2] 25 (0, 0)) (by (with_reducible repeat (first | refine blk_drewN ?_ _ | refine blk_drew ?_ | refine blk_alloc ?_ _)); exact BK135.out) hb); have n1_ := Aside0.mk (below_step (by repeat (first | (with_reducible first | exact HB.out | apply below_alloc | apply pw_below_drewN | apply below_drew1 | refine below_set ?_ GE135.out) | exact HB.out)) hb); have n2_ := Aside0.mk (hbox); have n3_ := Aside0.mk ((by rw [hg]; exact (below_size (by repeat (first | (with_reducible first | exact HB.out | apply below_alloc | apply pw_below_drewN | apply below_drew1 | refine below_set ?_ GE135.out) | exact HB.out))) : w.heap.size ≤ gb141)); have n4_ := Aside0.mk ((by rw [hg]; exact (below_size (by repeat (first | (with_reducible first | exact HB.out | apply below_alloc | apply pw_below_drewN | apply below_drew1 | refine below_set ?_ GE135.out) | exact HB.out))) : w.heap.size ≤ gb141)); have n5_ := Aside0.mk ((by rw [hg]; exact Nat.ne_of_lt (blk_lt (g := gb135) (o := .cells #[.int .i64 x136000_2, .int .i64 x136001_2, .int .i64 x136002_2] 25 (0, 0)) (by (with_reducible repeat (first | refine blk_drewN ?_ _ | refine blk_drew ?_ | refine blk_alloc ?_ _)); exact BK135.out)) : gb135 ≠ gb141)); have n6_ := Aside0.mk ((by rw [hg]; exact Nat.ne_of_gt (blk_lt (g := gb135) (o := .cells #[.int .i64 x136000_2, .int .i64 x136001_2, .int .i64 x136002_2] 25 (0, 0)) (by (with_reducible repeat (first | refine blk_drewN ?_ _ | refine blk_drew ?_ | refine blk_alloc ?_ _)); exact BK135.out)) : gb141 ≠ gb135)); clear BK135; clear HB; have BK135 := n0_; have HB := n1_; have BK141 := n2_; have GW141 := n3_; have GE141 := n4_; have NB135_141 := n5_; have NB141_135 := n6_; clear n0_ n1_ n2_ n3_ n4_ n5_ n6_; clear hb hbox hg; have hnb69 := NB141_135.out; have hnc69 := NB135_141.out; have hcz70_0 : w68.cell? ⟨gb141, 0, none⟩ = some (.int .i64 0) := (blk_cell BK141.out 0).trans rfl; have hcz70_1 : w68.cell? ⟨gb141, 1, none⟩ = some (.int .i64 0) := (blk_cell BK141.out 1).trans rfl; have hcz70_2 : w68.cell? ⟨gb141, 2, none⟩ = some (.int .i64 0) := (blk_cell BK141.out 2).trans rfl; have hfz70_0 := blk_frozen BK141.out 0; have hfz70_1 := blk_frozen BK141.out 1; have hfz70_2 := blk_frozen BK141.out 2; have hcz71_0 : w68.cell? ⟨gb135, 0, none⟩ = some (.int .i64 x136000_2) := (blk_cell BK135.out 0).trans rfl; have hcz71_1 : w68.cell? ⟨gb135, 1, none⟩ = some (.int .i64 x136001_2) := (blk_cell BK135.out 1).trans rfl; have hcz71_2 : w68.cell? ⟨gb135, 2, none⟩ = some (.int .i64 x136002_2) := (blk_cell BK135.out 2).trans rfl; have hfz71_0 := blk_frozen BK135.out 0; have hfz71_1 := blk_frozen BK135.out 1; have hfz71_2 := blk_frozen BK135.out 2))
                            go_ret
                            exact ⟨by first | rfl | (simp [errW_none, errW_some] <;> rfl) | (simp only [← hji20, ← hji21]; first | rfl | (simp [errW_none, errW_some] <;> rfl)) | (simp [*, errW_none, errW_some] <;> rfl), by repeat (first | (with_reducible first | exact HB.out | apply below_alloc | apply pw_below_drewN | apply below_drew1 | refine below_set ?_ GE135.out | refine below_set ?_ GE141.out) | exact HB.out)⟩
                    · rw [if_neg c22] at H
                      have c22b0 : ((Int.tmod x39_2 2) == 0) = false := beq_eq_false_iff_ne.mpr c22
                      have c22b1 : ((Int.tmod x39_2 2) != 0) = true := bne_iff_ne.mpr c22
                      obtain ⟨ji72, hji72⟩ : ∃ j_ : Int, (mn (ji21) x7_2) = j_ := ⟨_, rfl⟩
                      replace H : ((window_Credit.f x136000_2 x136001_2 x136002_2 (ji72)).bind fun bt142 => (if bt142.2.2.2 = (wrap64 (bt142.1 - x136000_2)) then (if bt142.2.2.2 > 0 then (bywashlaw12_WindowEven.j2 k2 a0 (wrap64 (x7_2 - (ji72))) l1 (l1.length : Int) x39_2 (bt142.2.2.1 != 0) bt142.1 bt142.2.1 bt142.2.2.1) else (bywashlaw12_WindowEven.j2 k2 a0 (wrap64 (x7_2 - (ji72))) l1 (l1.length : Int) x39_2 false bt142.1 bt142.2.1 bt142.2.2.1)) else (bywashlaw12_WindowEven.j2 k2 a0 (wrap64 (x7_2 - (ji72))) l1 (l1.length : Int) x39_2 true bt142.1 bt142.2.1 bt142.2.2.1))) = some r := by first | (rw [hji72] at H; exact H) | (simp only [hji72] at H ⊢; exact H)
                      have hji72_ : (if x7_2 < (ji21) then x7_2 else (ji21)) = ji72 := hji72
                      replace H := Option.bind_eq_some_iff.mp H
                      obtain ⟨⟨t142, t143, t144, t145⟩, A730, H⟩ := H
                      replace H : (if t145 = (wrap64 (t142 - x136000_2)) then (if t145 > 0 then (bywashlaw12_WindowEven.j2 k2 a0 (wrap64 (x7_2 - (ji72))) l1 (l1.length : Int) x39_2 (t144 != 0) t142 t143 t144) else (bywashlaw12_WindowEven.j2 k2 a0 (wrap64 (x7_2 - (ji72))) l1 (l1.length : Int) x39_2 false t142 t143 t144)) else (bywashlaw12_WindowEven.j2 k2 a0 (wrap64 (x7_2 - (ji72))) l1 (l1.length : Int) x39_2 true t142 t143 t144)) = some r := H
                      have A73 := Aside0.mk A730
                      clear A730
                      have HC74 := Aside0.mk H
                      clear H
                      have p136 : 0 ≤ (x39_2 : Int) := of_decide_eq_true (by first | (with_reducible assumption) | assumption)
                      have q136 : x39_2 < (l1.length : Int) := of_decide_eq_true (by first | (with_reducible assumption) | assumption)
                      obtain ⟨ad136, e136, hx136_0⟩ := Kd.at_int HR1.out x39_2 p136 q136
                      cases e136
                      replace hx136_0 := (HB.out.cell (World.block_lt_of_cell? w _ hx136_0)).trans hx136_0
                      replace p136 := eq_true p136
                      replace q136 := eq_true q136
                      have hcz75_0 : wr.cell? ⟨gb135, 0, none⟩ = some (.int .i64 x136000_2) := (blk_cell BK135.out 0).trans rfl
                      have hcz75_1 : wr.cell? ⟨gb135, 1, none⟩ = some (.int .i64 x136001_2) := (blk_cell BK135.out 1).trans rfl
                      have hcz75_2 : wr.cell? ⟨gb135, 2, none⟩ = some (.int .i64 x136002_2) := (blk_cell BK135.out 2).trans rfl
                      have hfz75_0 := blk_frozen BK135.out 0
                      have hfz75_1 := blk_frozen BK135.out 1
                      have hfz75_2 := blk_frozen BK135.out 2
                      go_upto_region 21 with (first | ((with_reducible refine gate_callee (f := 12) rfl ?_); refine goesL_ (some 71) rfl rfl Try.func12 (by kernel_rfl) rfl #[.agg #[.int .i64 x136000_2, .int .i64 x136001_2, .int .i64 x136002_2], .int .i64 ji72] rfl (by (try simp only [List.map_toArray, List.map_cons, List.map_nil]); first | done | (simp only [hji72]; rfl) | rfl | (simp only [List.length_drop, List.length_take]; rfl)) ?_; (with_reducible refine (window_Credit.calls x136000_2 x136001_2 x136002_2 ji72 t142 t143 t144 t145 _ A73.out).mono ?_); rintro e w76 ⟨rfl, hb⟩; refine ⟨_, rfl, ?_⟩; have n0_ := Aside0.mk (blk_below (g := gb135) (o := .cells #[.int .i64 x136000_2, .int .i64 x136001_2, .int .i64 x136002_2] 25 (0, 0)) (by (with_reducible repeat (first | refine blk_drewN ?_ _ | refine blk_drew ?_ | refine blk_alloc ?_ _)); exact BK135.out) hb); have n1_ := Aside0.mk (below_step (by repeat (first | (with_reducible first | exact HB.out | apply below_alloc | apply pw_below_drewN | apply below_drew1 | refine below_set ?_ GE135.out) | exact HB.out)) hb); clear BK135; clear HB; have BK135 := n0_; have HB := n1_; clear n0_ n1_; (try clear hb); (try clear hb2); (try clear hk); (try clear hi)) | ((with_reducible refine gate_dst (N := 12) rfl ?_); (try (refine gate_guard (by rfl) ?_; dsimp only)); refine box_event ?hg (N := 12) ?hd (cs := #[.int .i64 0, .int .i64 0, .int .i64 0]) (t := 25) ?hr ?_; (case hd => rfl); (case hg => rfl); (case hr => first | (go_simp; done) | (go_simp; rfl)); intro gb146 hg w77 hbox hb; have n0_ := Aside0.mk (blk_below (g := gb135) (o := .cells #[.int .i64 x136000_2, .int .i64 x136001_2, .int .i64 x136002_2] 25 (0, 0)) (by (with_reducible repeat (first | refine blk_drewN ?_ _ | refine blk_drew ?_ | refine blk_alloc ?_ _)); exact BK135.out) hb); have n1_ := Aside0.mk (below_step (by repeat (first | (with_reducible first | exact HB.out | apply below_alloc | apply pw_below_drewN | apply below_drew1 | refine below_set ?_ GE135.out) | exact HB.out)) hb); have n2_ := Aside0.mk (hbox); have n3_ := Aside0.mk ((by rw [hg]; exact (below_size (by repeat (first | (with_reducible first | exact HB.out | apply below_alloc | apply pw_below_drewN | apply below_drew1 | refine below_set ?_ GE135.out) | exact HB.out))) : w.heap.size ≤ gb146)); have n4_ := Aside0.mk ((by rw [hg]; exact (below_size (by repeat (first | (with_reducible first | exact HB.out | apply below_alloc | apply pw_below_drewN | apply below_drew1 | refine below_set ?_ GE135.out) | exact HB.out))) : w.heap.size ≤ gb146)); have n5_ := Aside0.mk ((by rw [hg]; exact Nat.ne_of_lt (blk_lt (g := gb135) (o := .cells #[.int .i64 x136000_2, .int .i64 x136001_2, .int .i64 x136002_2] 25 (0, 0)) (by (with_reducible repeat (first | refine blk_drewN ?_ _ | refine blk_drew ?_ | refine blk_alloc ?_ _)); exact BK135.out)) : gb135 ≠ gb146)); have n6_ := Aside0.mk ((by rw [hg]; exact Nat.ne_of_gt (blk_lt (g := gb135) (o := .cells #[.int .i64 x136000_2, .int .i64 x136001_2, .int .i64 x136002_2] 25 (0, 0)) (by (with_reducible repeat (first | refine blk_drewN ?_ _ | refine blk_drew ?_ | refine blk_alloc ?_ _)); exact BK135.out)) : gb146 ≠ gb135)); clear BK135; clear HB; have BK135 := n0_; have HB := n1_; have BK146 := n2_; have GW146 := n3_; have GE146 := n4_; have NB135_146 := n5_; have NB146_135 := n6_; clear n0_ n1_ n2_ n3_ n4_ n5_ n6_; clear hb hbox hg; have hnb78 := NB146_135.out; have hnc78 := NB135_146.out; have hcz79_0 : w77.cell? ⟨gb146, 0, none⟩ = some (.int .i64 0) := (blk_cell BK146.out 0).trans rfl; have hcz79_1 : w77.cell? ⟨gb146, 1, none⟩ = some (.int .i64 0) := (blk_cell BK146.out 1).trans rfl; have hcz79_2 : w77.cell? ⟨gb146, 2, none⟩ = some (.int .i64 0) := (blk_cell BK146.out 2).trans rfl; have hfz79_0 := blk_frozen BK146.out 0; have hfz79_1 := blk_frozen BK146.out 1; have hfz79_2 := blk_frozen BK146.out 2))
                      (try simp only [Act.put, List.setIfInBounds_toArray, List.set_cons_zero, List.set_cons_succ])
                      go_cut [92] (fun v92 wc => ∃ (kq : Nat) (x92_73 : Bool), v92 = .bool x92_73 ∧ Aside0 (bywashlaw12_WindowEven.j2 kq a0 (wrap64 (x7_2 - (ji72))) l1 (l1.length : Int) x39_2 x92_73 t142 t143 t144 = some r) ∧ Aside0 (kq ≤ k2) ∧ Aside0 (wc.heap[gb135]? = some (.cells #[.int .i64 x136000_2, .int .i64 x136001_2, .int .i64 x136002_2] 25 (0, 0))) ∧ Aside0 (wc.heap[gb146]? = some (.cells #[.int .i64 t142, .int .i64 t143, .int .i64 t144] 25 (0, 0))) ∧ Aside0 (Below w.heap.size w wc))
                      case first =>
                        have H := HC74.out
                        clear HC74
                        by_cases c80 : t145 = (wrap64 (t142 - x136000_2))
                        · rw [if_pos c80] at H
                          have c80b0 : (t145 == (wrap64 (t142 - x136000_2))) = true := beq_iff_eq.mpr c80
                          have c80b1 : (t145 != (wrap64 (t142 - x136000_2))) = false := bne_eq_false_iff_eq.mpr c80
                          clear c80
                          (first | rw [c80b0] | (simp only [i64_w, i32_w]; rw [c80b0]) | skip)
                          by_cases c81 : t145 > 0
                          · rw [if_pos c81] at H
                            have c81b0 : decide (0 < t145) = true := decide_eq_true c81
                            clear c81
                            have H' := Aside0.mk H
                            clear H
                            have hnb82 := NB146_135.out
                            have hnc82 := NB135_146.out
                            have hcz83_0 : w77.cell? ⟨gb146, 0, none⟩ = some (.int .i64 0) := (blk_cell BK146.out 0).trans rfl
                            have hcz83_1 : w77.cell? ⟨gb146, 1, none⟩ = some (.int .i64 0) := (blk_cell BK146.out 1).trans rfl
                            have hcz83_2 : w77.cell? ⟨gb146, 2, none⟩ = some (.int .i64 0) := (blk_cell BK146.out 2).trans rfl
                            have hfz83_0 := blk_frozen BK146.out 0
                            have hfz83_1 := blk_frozen BK146.out 1
                            have hfz83_2 := blk_frozen BK146.out 2
                            have hcz84_0 : w77.cell? ⟨gb135, 0, none⟩ = some (.int .i64 x136000_2) := (blk_cell BK135.out 0).trans rfl
                            have hcz84_1 : w77.cell? ⟨gb135, 1, none⟩ = some (.int .i64 x136001_2) := (blk_cell BK135.out 1).trans rfl
                            have hcz84_2 : w77.cell? ⟨gb135, 2, none⟩ = some (.int .i64 x136002_2) := (blk_cell BK135.out 2).trans rfl
                            have hfz84_0 := blk_frozen BK135.out 0
                            have hfz84_1 := blk_frozen BK135.out 1
                            have hfz84_2 := blk_frozen BK135.out 2
                            go_wp2
                            go_meet
                            case rel => exact ⟨_, ((t144 != 0)), (by first | rfl | (simp; done) | (simp [*]; done)), H', ⟨by have := HJ2.out; have := HK2.out; first | omega | exact Nat.le_refl _⟩, ⟨by (with_reducible repeat (first | refine blk_drewN ?_ _ | refine blk_drew ?_ | refine blk_alloc ?_ _)); refine blk_far ?_ NB135_146.out _; (with_reducible repeat (first | refine blk_drewN ?_ _ | refine blk_drew ?_ | refine blk_alloc ?_ _)); refine blk_far ?_ NB135_146.out _; (with_reducible repeat (first | refine blk_drewN ?_ _ | refine blk_drew ?_ | refine blk_alloc ?_ _)); refine blk_far ?_ NB135_146.out _; (with_reducible repeat (first | refine blk_drewN ?_ _ | refine blk_drew ?_ | refine blk_alloc ?_ _)); exact BK135.out⟩, ⟨by (with_reducible repeat (first | refine blk_drewN ?_ _ | refine blk_drew ?_ | refine blk_alloc ?_ _)); refine blk_put (cs := #[.int .i64 t142, .int .i64 t143, .int .i64 0]) ?_ 2 _ rfl; (with_reducible repeat (first | refine blk_drewN ?_ _ | refine blk_drew ?_ | refine blk_alloc ?_ _)); refine blk_put (cs := #[.int .i64 t142, .int .i64 0, .int .i64 0]) ?_ 1 _ rfl; (with_reducible repeat (first | refine blk_drewN ?_ _ | refine blk_drew ?_ | refine blk_alloc ?_ _)); refine blk_put (cs := #[.int .i64 0, .int .i64 0, .int .i64 0]) ?_ 0 _ rfl; (with_reducible repeat (first | refine blk_drewN ?_ _ | refine blk_drew ?_ | refine blk_alloc ?_ _)); exact BK146.out⟩, ⟨by repeat (first | (with_reducible first | exact HB.out | apply below_alloc | apply pw_below_drewN | apply below_drew1 | refine below_set ?_ GE135.out | refine below_set ?_ GE146.out) | exact HB.out)⟩⟩
                          · rw [if_neg c81] at H
                            have c81b0 : decide (0 < t145) = false := decide_eq_false c81
                            clear c81
                            have H' := Aside0.mk H
                            clear H
                            have hnb85 := NB146_135.out
                            have hnc85 := NB135_146.out
                            have hcz86_0 : w77.cell? ⟨gb146, 0, none⟩ = some (.int .i64 0) := (blk_cell BK146.out 0).trans rfl
                            have hcz86_1 : w77.cell? ⟨gb146, 1, none⟩ = some (.int .i64 0) := (blk_cell BK146.out 1).trans rfl
                            have hcz86_2 : w77.cell? ⟨gb146, 2, none⟩ = some (.int .i64 0) := (blk_cell BK146.out 2).trans rfl
                            have hfz86_0 := blk_frozen BK146.out 0
                            have hfz86_1 := blk_frozen BK146.out 1
                            have hfz86_2 := blk_frozen BK146.out 2
                            have hcz87_0 : w77.cell? ⟨gb135, 0, none⟩ = some (.int .i64 x136000_2) := (blk_cell BK135.out 0).trans rfl
                            have hcz87_1 : w77.cell? ⟨gb135, 1, none⟩ = some (.int .i64 x136001_2) := (blk_cell BK135.out 1).trans rfl
                            have hcz87_2 : w77.cell? ⟨gb135, 2, none⟩ = some (.int .i64 x136002_2) := (blk_cell BK135.out 2).trans rfl
                            have hfz87_0 := blk_frozen BK135.out 0
                            have hfz87_1 := blk_frozen BK135.out 1
                            have hfz87_2 := blk_frozen BK135.out 2
                            go_wp2
                            go_meet
                            case rel => exact ⟨_, (false), (by first | rfl | (simp; done) | (simp [*]; done)), H', ⟨by have := HJ2.out; have := HK2.out; first | omega | exact Nat.le_refl _⟩, ⟨by (with_reducible repeat (first | refine blk_drewN ?_ _ | refine blk_drew ?_ | refine blk_alloc ?_ _)); refine blk_far ?_ NB135_146.out _; (with_reducible repeat (first | refine blk_drewN ?_ _ | refine blk_drew ?_ | refine blk_alloc ?_ _)); refine blk_far ?_ NB135_146.out _; (with_reducible repeat (first | refine blk_drewN ?_ _ | refine blk_drew ?_ | refine blk_alloc ?_ _)); refine blk_far ?_ NB135_146.out _; (with_reducible repeat (first | refine blk_drewN ?_ _ | refine blk_drew ?_ | refine blk_alloc ?_ _)); exact BK135.out⟩, ⟨by (with_reducible repeat (first | refine blk_drewN ?_ _ | refine blk_drew ?_ | refine blk_alloc ?_ _)); refine blk_put (cs := #[.int .i64 t142, .int .i64 t143, .int .i64 0]) ?_ 2 _ rfl; (with_reducible repeat (first | refine blk_drewN ?_ _ | refine blk_drew ?_ | refine blk_alloc ?_ _)); refine blk_put (cs := #[.int .i64 t142, .int .i64 0, .int .i64 0]) ?_ 1 _ rfl; (with_reducible repeat (first | refine blk_drewN ?_ _ | refine blk_drew ?_ | refine blk_alloc ?_ _)); refine blk_put (cs := #[.int .i64 0, .int .i64 0, .int .i64 0]) ?_ 0 _ rfl; (with_reducible repeat (first | refine blk_drewN ?_ _ | refine blk_drew ?_ | refine blk_alloc ?_ _)); exact BK146.out⟩, ⟨by repeat (first | (with_reducible first | exact HB.out | apply below_alloc | apply pw_below_drewN | apply below_drew1 | refine below_set ?_ GE135.out | refine below_set ?_ GE146.out) | exact HB.out)⟩⟩
                        · rw [if_neg c80] at H
                          have c80b0 : (t145 == (wrap64 (t142 - x136000_2))) = false := beq_eq_false_iff_ne.mpr c80
                          have c80b1 : (t145 != (wrap64 (t142 - x136000_2))) = true := bne_iff_ne.mpr c80
                          (first | rw [c80b0] | (simp only [i64_w, i32_w]; rw [c80b0]) | skip)
                          have H' := Aside0.mk H
                          clear H
                          have hnb88 := NB146_135.out
                          have hnc88 := NB135_146.out
                          have hcz89_0 : w77.cell? ⟨gb146, 0, none⟩ = some (.int .i64 0) := (blk_cell BK146.out 0).trans rfl
                          have hcz89_1 : w77.cell? ⟨gb146, 1, none⟩ = some (.int .i64 0) := (blk_cell BK146.out 1).trans rfl
                          have hcz89_2 : w77.cell? ⟨gb146, 2, none⟩ = some (.int .i64 0) := (blk_cell BK146.out 2).trans rfl
                          have hfz89_0 := blk_frozen BK146.out 0
                          have hfz89_1 := blk_frozen BK146.out 1
                          have hfz89_2 := blk_frozen BK146.out 2
                          have hcz90_0 : w77.cell? ⟨gb135, 0, none⟩ = some (.int .i64 x136000_2) := (blk_cell BK135.out 0).trans rfl
                          have hcz90_1 : w77.cell? ⟨gb135, 1, none⟩ = some (.int .i64 x136001_2) := (blk_cell BK135.out 1).trans rfl
                          have hcz90_2 : w77.cell? ⟨gb135, 2, none⟩ = some (.int .i64 x136002_2) := (blk_cell BK135.out 2).trans rfl
                          have hfz90_0 := blk_frozen BK135.out 0
                          have hfz90_1 := blk_frozen BK135.out 1
                          have hfz90_2 := blk_frozen BK135.out 2
                          go_wp2
                          go_meet
                          case rel => exact ⟨_, (true), (by first | rfl | (simp; done) | (simp [*]; done)), H', ⟨by have := HJ2.out; have := HK2.out; first | omega | exact Nat.le_refl _⟩, ⟨by (with_reducible repeat (first | refine blk_drewN ?_ _ | refine blk_drew ?_ | refine blk_alloc ?_ _)); refine blk_far ?_ NB135_146.out _; (with_reducible repeat (first | refine blk_drewN ?_ _ | refine blk_drew ?_ | refine blk_alloc ?_ _)); refine blk_far ?_ NB135_146.out _; (with_reducible repeat (first | refine blk_drewN ?_ _ | refine blk_drew ?_ | refine blk_alloc ?_ _)); refine blk_far ?_ NB135_146.out _; (with_reducible repeat (first | refine blk_drewN ?_ _ | refine blk_drew ?_ | refine blk_alloc ?_ _)); exact BK135.out⟩, ⟨by (with_reducible repeat (first | refine blk_drewN ?_ _ | refine blk_drew ?_ | refine blk_alloc ?_ _)); refine blk_put (cs := #[.int .i64 t142, .int .i64 t143, .int .i64 0]) ?_ 2 _ rfl; (with_reducible repeat (first | refine blk_drewN ?_ _ | refine blk_drew ?_ | refine blk_alloc ?_ _)); refine blk_put (cs := #[.int .i64 t142, .int .i64 0, .int .i64 0]) ?_ 1 _ rfl; (with_reducible repeat (first | refine blk_drewN ?_ _ | refine blk_drew ?_ | refine blk_alloc ?_ _)); refine blk_put (cs := #[.int .i64 0, .int .i64 0, .int .i64 0]) ?_ 0 _ rfl; (with_reducible repeat (first | refine blk_drewN ?_ _ | refine blk_drew ?_ | refine blk_alloc ?_ _)); exact BK146.out⟩, ⟨by repeat (first | (with_reducible first | exact HB.out | apply below_alloc | apply pw_below_drewN | apply below_drew1 | refine below_set ?_ GE135.out | refine below_set ?_ GE146.out) | exact HB.out)⟩⟩
                      case rest =>
                        clear HC74
                        try clear c1
                        try clear p1
                        try clear q1
                        try clear hx1
                        try clear c2
                        try clear p2
                        try clear c3
                        try clear c4
                        try clear c4b0
                        try clear c5
                        try clear c5b0
                        try clear c6
                        try clear c6b0
                        try clear c6b1
                        try clear p6
                        try clear c7
                        try clear c8
                        try clear c9
                        try clear c10
                        try clear c11
                        try clear c12
                        try clear c13
                        try clear p13
                        try clear q13
                        try clear hx13
                        try clear c17
                        try clear c17b0
                        try clear c18
                        try clear c18b0
                        try clear c19
                        try clear c19b0
                        try clear c22
                        try clear c22b0
                        try clear c22b1
                        try clear c24
                        try clear c25
                        try clear c25b0
                        try clear c25b1
                        try clear c26
                        try clear c26b0
                        try clear c30
                        try clear c36
                        try clear c42
                        try clear c45
                        try clear c45b0
                        try clear c49
                        try clear c52
                        try clear c52b0
                        try clear c52b1
                        try clear c53
                        try clear c53b0
                        try clear c57
                        try clear c63
                        try clear p64
                        try clear c69
                        try clear c78
                        try clear c80
                        try clear c80b0
                        try clear c80b1
                        try clear c81
                        try clear c81b0
                        try clear c82
                        try clear c85
                        try clear c88
                        try clear hcz16_0
                        try clear hcz16_1
                        try clear hcz16_2
                        try clear hcz27_0
                        try clear hcz27_1
                        try clear hcz27_2
                        try clear hcz31_0
                        try clear hcz31_1
                        try clear hcz31_2
                        try clear hcz32_0
                        try clear hcz32_1
                        try clear hcz32_2
                        try clear hcz33_0
                        try clear hcz33_1
                        try clear hcz33_2
                        try clear hcz37_0
                        try clear hcz37_1
                        try clear hcz37_2
                        try clear hcz38_0
                        try clear hcz38_1
                        try clear hcz38_2
                        try clear hcz39_0
                        try clear hcz39_1
                        try clear hcz39_2
                        try clear hcz43_0
                        try clear hcz43_1
                        try clear hcz43_2
                        try clear hcz44_0
                        try clear hcz44_1
                        try clear hcz44_2
                        try clear hcz46_0
                        try clear hcz46_1
                        try clear hcz46_2
                        try clear hcz50_0
                        try clear hcz50_1
                        try clear hcz50_2
                        try clear hcz51_0
                        try clear hcz51_1
                        try clear hcz51_2
                        try clear hcz54_0
                        try clear hcz54_1
                        try clear hcz54_2
                        try clear hcz58_0
                        try clear hcz58_1
                        try clear hcz58_2
                        try clear hcz59_0
                        try clear hcz59_1
                        try clear hcz59_2
                        try clear hcz60_0
                        try clear hcz60_1
                        try clear hcz60_2
                        try clear hcz64_0
                        try clear hcz64_1
                        try clear hcz64_2
                        try clear hcz65_0
                        try clear hcz65_1
                        try clear hcz65_2
                        try clear hcz66_0
                        try clear hcz66_1
                        try clear hcz66_2
                        try clear hcz70_0
                        try clear hcz70_1
                        try clear hcz70_2
                        try clear hcz71_0
                        try clear hcz71_1
                        try clear hcz71_2
                        try clear hcz75_0
                        try clear hcz75_1
                        try clear hcz75_2
                        try clear hcz79_0
                        try clear hcz79_1
                        try clear hcz79_2
                        try clear hcz83_0
                        try clear hcz83_1
                        try clear hcz83_2
                        try clear hcz84_0
                        try clear hcz84_1
                        try clear hcz84_2
                        try clear hcz86_0
                        try clear hcz86_1
                        try clear hcz86_2
                        try clear hcz87_0
                        try clear hcz87_1
                        try clear hcz87_2
                        try clear hcz89_0
                        try clear hcz89_1
                        try clear hcz89_2
                        try clear hcz90_0
                        try clear hcz90_1
                        try clear hcz90_2
                        try clear hfz16_0
                        try clear hfz16_1
                        try clear hfz16_2
                        try clear hfz27_0
                        try clear hfz27_1
                        try clear hfz27_2
                        try clear hfz31_0
                        try clear hfz31_1
                        try clear hfz31_2
                        try clear hfz32_0
                        try clear hfz32_1
                        try clear hfz32_2
                        try clear hfz33_0
                        try clear hfz33_1
                        try clear hfz33_2
                        try clear hfz37_0
                        try clear hfz37_1
                        try clear hfz37_2
                        try clear hfz38_0
                        try clear hfz38_1
                        try clear hfz38_2
                        try clear hfz39_0
                        try clear hfz39_1
                        try clear hfz39_2
                        try clear hfz43_0
                        try clear hfz43_1
                        try clear hfz43_2
                        try clear hfz44_0
                        try clear hfz44_1
                        try clear hfz44_2
                        try clear hfz46_0
                        try clear hfz46_1
                        try clear hfz46_2
                        try clear hfz50_0
                        try clear hfz50_1
                        try clear hfz50_2
                        try clear hfz51_0
                        try clear hfz51_1
                        try clear hfz51_2
                        try clear hfz54_0
                        try clear hfz54_1
                        try clear hfz54_2
                        try clear hfz58_0
                        try clear hfz58_1
                        try clear hfz58_2
                        try clear hfz59_0
                        try clear hfz59_1
                        try clear hfz59_2
                        try clear hfz60_0
                        try clear hfz60_1
                        try clear hfz60_2
                        try clear hfz64_0
                        try clear hfz64_1
                        try clear hfz64_2
                        try clear hfz65_0
                        try clear hfz65_1
                        try clear hfz65_2
                        try clear hfz66_0
                        try clear hfz66_1
                        try clear hfz66_2
                        try clear hfz70_0
                        try clear hfz70_1
                        try clear hfz70_2
                        try clear hfz71_0
                        try clear hfz71_1
                        try clear hfz71_2
                        try clear hfz75_0
                        try clear hfz75_1
                        try clear hfz75_2
                        try clear hfz79_0
                        try clear hfz79_1
                        try clear hfz79_2
                        try clear hfz83_0
                        try clear hfz83_1
                        try clear hfz83_2
                        try clear hfz84_0
                        try clear hfz84_1
                        try clear hfz84_2
                        try clear hfz86_0
                        try clear hfz86_1
                        try clear hfz86_2
                        try clear hfz87_0
                        try clear hfz87_1
                        try clear hfz87_2
                        try clear hfz89_0
                        try clear hfz89_1
                        try clear hfz89_2
                        try clear hfz90_0
                        try clear hfz90_1
                        try clear hfz90_2
                        try clear hx136_0
                        try clear p136
                        try clear p2
                        try clear q136
                        obtain ⟨kq, x92_73, rfl, HA, HJ73, BK135, BK146, HB⟩ := hcut
                        cases kq with
                        | zero => exact absurd HA.out (by simp [bywashlaw12_WindowEven.j2])
                        | succ kj73 =>
                          have H := HA.out
                          clear HA
                          simp only [bywashlaw12_WindowEven.j2] at H
                          by_cases c91 : x92_73 = true
                          · subst c91
                            have H1 : (some false) = some r := by rw [if_pos rfl] at H; exact H
                            clear H
                            have H := H1
                            clear H1
                            obtain rfl := Option.some.inj H
                            go_wp2
                            go_ret
                            exact ⟨by first | rfl | (simp [errW_none, errW_some] <;> rfl) | (simp only [← hji20, ← hji21, ← hji72]; first | rfl | (simp [errW_none, errW_some] <;> rfl)) | (simp [*, errW_none, errW_some] <;> rfl), by repeat (first | (with_reducible first | exact HB.out | apply below_alloc | apply pw_below_drewN | apply below_drew1 | refine below_set ?_ GE135.out | refine below_set ?_ GE146.out) | exact HB.out)⟩
                          · replace c91 := Bool.eq_false_iff.mpr c91
                            subst c91
                            have H1 : (if (wrap64 ((wrap64 (t142 + t144)) + (wrap64 (x7_2 - (ji72))))) = a0 then (if t142 < 0 then (some false) else (bywashlaw12_WindowEven.l0 kj73 a0 (wrap64 (x7_2 - (ji72))) l1 (l1.length : Int) (wrap64 (x39_2 + 1)) t142 t143 t144)) else (some false)) = some r := by rw [if_neg (show ¬ (false = true) by decide)] at H; exact H
                            clear H
                            have H := H1
                            clear H1
                            by_cases c92 : (wrap64 ((wrap64 (t142 + t144)) + (wrap64 (x7_2 - (ji72))))) = a0
                            · rw [if_pos c92] at H
                              have c92b0 : ((wrap64 ((wrap64 (t142 + t144)) + (wrap64 (x7_2 - (ji72))))) == a0) = true := beq_iff_eq.mpr c92
                              have c92b1 : ((wrap64 ((wrap64 (t142 + t144)) + (wrap64 (x7_2 - (ji72))))) != a0) = false := bne_eq_false_iff_eq.mpr c92
                              clear c92
                              by_cases c93 : t142 < 0
                              · rw [if_pos c93] at H
                                have c93b0 : decide (t142 < 0) = true := decide_eq_true c93
                                clear c93
                                obtain rfl := Option.some.inj H
                                have hnb94 := NB146_135.out
                                have hnc94 := NB135_146.out
                                have hcz95_0 : wc.cell? ⟨gb146, 0, none⟩ = some (.int .i64 t142) := (blk_cell BK146.out 0).trans rfl
                                have hcz95_1 : wc.cell? ⟨gb146, 1, none⟩ = some (.int .i64 t143) := (blk_cell BK146.out 1).trans rfl
                                have hcz95_2 : wc.cell? ⟨gb146, 2, none⟩ = some (.int .i64 t144) := (blk_cell BK146.out 2).trans rfl
                                have hfz95_0 := blk_frozen BK146.out 0
                                have hfz95_1 := blk_frozen BK146.out 1
                                have hfz95_2 := blk_frozen BK146.out 2
                                have hcz96_0 : wc.cell? ⟨gb135, 0, none⟩ = some (.int .i64 x136000_2) := (blk_cell BK135.out 0).trans rfl
                                have hcz96_1 : wc.cell? ⟨gb135, 1, none⟩ = some (.int .i64 x136001_2) := (blk_cell BK135.out 1).trans rfl
                                have hcz96_2 : wc.cell? ⟨gb135, 2, none⟩ = some (.int .i64 x136002_2) := (blk_cell BK135.out 2).trans rfl
                                have hfz96_0 := blk_frozen BK135.out 0
                                have hfz96_1 := blk_frozen BK135.out 1
                                have hfz96_2 := blk_frozen BK135.out 2
                                go_wp2
                                go_ret
                                exact ⟨by first | rfl | (simp [errW_none, errW_some] <;> rfl) | (simp only [← hji20, ← hji21, ← hji72]; first | rfl | (simp [errW_none, errW_some] <;> rfl)) | (simp [*, errW_none, errW_some] <;> rfl), by repeat (first | (with_reducible first | exact HB.out | apply below_alloc | apply pw_below_drewN | apply below_drew1 | refine below_set ?_ GE135.out | refine below_set ?_ GE146.out) | exact HB.out)⟩
                              · rw [if_neg c93] at H
                                have c93b0 : decide (t142 < 0) = false := decide_eq_false c93
                                clear c93
                                have H' := Aside0.mk H
                                clear H
                                have hnb97 := NB146_135.out
                                have hnc97 := NB135_146.out
                                have hcz98_0 : wc.cell? ⟨gb146, 0, none⟩ = some (.int .i64 t142) := (blk_cell BK146.out 0).trans rfl
                                have hcz98_1 : wc.cell? ⟨gb146, 1, none⟩ = some (.int .i64 t143) := (blk_cell BK146.out 1).trans rfl
                                have hcz98_2 : wc.cell? ⟨gb146, 2, none⟩ = some (.int .i64 t144) := (blk_cell BK146.out 2).trans rfl
                                have hfz98_0 := blk_frozen BK146.out 0
                                have hfz98_1 := blk_frozen BK146.out 1
                                have hfz98_2 := blk_frozen BK146.out 2
                                have hcz99_0 : wc.cell? ⟨gb135, 0, none⟩ = some (.int .i64 x136000_2) := (blk_cell BK135.out 0).trans rfl
                                have hcz99_1 : wc.cell? ⟨gb135, 1, none⟩ = some (.int .i64 x136001_2) := (blk_cell BK135.out 1).trans rfl
                                have hcz99_2 : wc.cell? ⟨gb135, 2, none⟩ = some (.int .i64 x136002_2) := (blk_cell BK135.out 2).trans rfl
                                have hfz99_0 := blk_frozen BK135.out 0
                                have hfz99_1 := blk_frozen BK135.out 1
                                have hfz99_2 := blk_frozen BK135.out 2
                                go_wp2
                                go_roundg kj73
                                case measure => have := HJ2.out; have := HK2.out; have := HJ73.out; omega
                                case rel => exact ⟨((wrap64 (x7_2 - (ji72)))), (wrap64 (x39_2 + 1)), (t142), (t143), (t144), (by first | rfl | (simp; done) | (simp only [← hji72] <;> (first | rfl | simp)) | (simp [*]; done)), (by first | rfl | (simp; done) | (simp [*]; done)), H', ⟨by have := HJ2.out; have := HK2.out; have := HJ73.out; omega⟩, ⟨by (with_reducible repeat (first | refine blk_drewN ?_ _ | refine blk_drew ?_ | refine blk_alloc ?_ _)); refine blk_put (cs := #[.int .i64 t142, .int .i64 t143, .int .i64 x136002_2]) ?_ 2 _ rfl; (with_reducible repeat (first | refine blk_drewN ?_ _ | refine blk_drew ?_ | refine blk_alloc ?_ _)); refine blk_put (cs := #[.int .i64 t142, .int .i64 x136001_2, .int .i64 x136002_2]) ?_ 1 _ rfl; (with_reducible repeat (first | refine blk_drewN ?_ _ | refine blk_drew ?_ | refine blk_alloc ?_ _)); refine blk_put (cs := #[.int .i64 x136000_2, .int .i64 x136001_2, .int .i64 x136002_2]) ?_ 0 _ rfl; (with_reducible repeat (first | refine blk_drewN ?_ _ | refine blk_drew ?_ | refine blk_alloc ?_ _)); exact BK135.out⟩, ⟨by repeat (first | (with_reducible first | exact HB.out | apply below_alloc | apply pw_below_drewN | apply below_drew1 | refine below_set ?_ GE135.out | refine below_set ?_ GE146.out) | exact HB.out)⟩⟩
                            · rw [if_neg c92] at H
                              have c92b0 : ((wrap64 ((wrap64 (t142 + t144)) + (wrap64 (x7_2 - (ji72))))) == a0) = false := beq_eq_false_iff_ne.mpr c92
                              have c92b1 : ((wrap64 ((wrap64 (t142 + t144)) + (wrap64 (x7_2 - (ji72))))) != a0) = true := bne_iff_ne.mpr c92
                              obtain rfl := Option.some.inj H
                              have hnb100 := NB146_135.out
                              have hnc100 := NB135_146.out
                              have hcz101_0 : wc.cell? ⟨gb146, 0, none⟩ = some (.int .i64 t142) := (blk_cell BK146.out 0).trans rfl
                              have hcz101_1 : wc.cell? ⟨gb146, 1, none⟩ = some (.int .i64 t143) := (blk_cell BK146.out 1).trans rfl
                              have hcz101_2 : wc.cell? ⟨gb146, 2, none⟩ = some (.int .i64 t144) := (blk_cell BK146.out 2).trans rfl
                              have hfz101_0 := blk_frozen BK146.out 0
                              have hfz101_1 := blk_frozen BK146.out 1
                              have hfz101_2 := blk_frozen BK146.out 2
                              have hcz102_0 : wc.cell? ⟨gb135, 0, none⟩ = some (.int .i64 x136000_2) := (blk_cell BK135.out 0).trans rfl
                              have hcz102_1 : wc.cell? ⟨gb135, 1, none⟩ = some (.int .i64 x136001_2) := (blk_cell BK135.out 1).trans rfl
                              have hcz102_2 : wc.cell? ⟨gb135, 2, none⟩ = some (.int .i64 x136002_2) := (blk_cell BK135.out 2).trans rfl
                              have hfz102_0 := blk_frozen BK135.out 0
                              have hfz102_1 := blk_frozen BK135.out 1
                              have hfz102_2 := blk_frozen BK135.out 2
                              go_wp2
                              go_ret
                              exact ⟨by first | rfl | (simp [errW_none, errW_some] <;> rfl) | (simp only [← hji20, ← hji21, ← hji72]; first | rfl | (simp [errW_none, errW_some] <;> rfl)) | (simp [*, errW_none, errW_some] <;> rfl), by repeat (first | (with_reducible first | exact HB.out | apply below_alloc | apply pw_below_drewN | apply below_drew1 | refine below_set ?_ GE135.out | refine below_set ?_ GE146.out) | exact HB.out)⟩
                  · rw [if_neg c19] at H
                    exact absurd H (by simp)
                · rw [if_neg c18] at H
                  exact absurd H (by simp)
              · rw [if_neg c17] at H
                have c17b0 : decide (x39_2 < (l1.length : Int)) = false := decide_eq_false c17
                clear c17
                obtain rfl := Option.some.inj H
                go_wp2
                go_ret
                exact ⟨by first | rfl | (simp [errW_none, errW_some] <;> rfl) | (simp [*, errW_none, errW_some] <;> rfl), by repeat (first | (with_reducible first | exact HB.out | apply below_alloc | apply pw_below_drewN | apply below_drew1 | refine below_set ?_ GE135.out) | exact HB.out)⟩
        · replace c13 := Bool.eq_false_iff.mpr c13
          subst c13
          have H1 : (some false) = some r := by rw [if_neg (show ¬ (false = true) by decide)] at H; exact H
          clear H
          have H := H1
          clear H1
          obtain rfl := Option.some.inj H
          go_wp2_with (first | ((with_reducible refine gate_callee (f := 10) rfl ?_); refine goesL_ (some 32) rfl rfl Try.func10 (by kernel_rfl) rfl #[.int .i64 a0] rfl (by (try simp only [List.map_toArray, List.map_cons, List.map_nil]); first | done | rfl | (simp only [List.length_drop, List.length_take]; rfl)) ?_; (with_reducible refine (window_New.calls a0 t131 t132 t133 false _ A12.out).mono ?_); rintro e w103 ⟨rfl, hb⟩; refine ⟨_, rfl, ?_⟩; have n0_ := Aside0.mk (below_step (by repeat (first | (with_reducible first | exact HB.out | apply below_alloc | apply pw_below_drewN | apply below_drew1) | exact HB.out)) hb); clear HB; have HB := n0_; clear n0_; (try clear hb); (try clear hb2); (try clear hk); (try clear hi)) | ((with_reducible refine gate_dst (N := 5) rfl ?_); (try (refine gate_guard (by rfl) ?_; dsimp only)); refine box_event ?hg (N := 5) ?hd (cs := #[.int .i64 0, .int .i64 0, .int .i64 0]) (t := 25) ?hr ?_; (case hd => rfl); (case hg => rfl); (case hr => first | (go_simp; done) | (go_simp; rfl)); intro gb135 hg w104 hbox hb; have n0_ := Aside0.mk (below_step (by repeat (first | (with_reducible first | exact HB.out | apply below_alloc | apply pw_below_drewN | apply below_drew1) | exact HB.out)) hb); have n1_ := Aside0.mk (hbox); have n2_ := Aside0.mk ((by rw [hg]; exact (below_size (by repeat (first | (with_reducible first | exact HB.out | apply below_alloc | apply pw_below_drewN | apply below_drew1) | exact HB.out))) : w.heap.size ≤ gb135)); have n3_ := Aside0.mk ((by rw [hg]; exact (below_size (by repeat (first | (with_reducible first | exact HB.out | apply below_alloc | apply pw_below_drewN | apply below_drew1) | exact HB.out))) : w.heap.size ≤ gb135)); clear HB; have HB := n0_; have BK135 := n1_; have GW135 := n2_; have GE135 := n3_; clear n0_ n1_ n2_ n3_; clear hb hbox hg; have hcz105_0 : w104.cell? ⟨gb135, 0, none⟩ = some (.int .i64 0) := (blk_cell BK135.out 0).trans rfl; have hcz105_1 : w104.cell? ⟨gb135, 1, none⟩ = some (.int .i64 0) := (blk_cell BK135.out 1).trans rfl; have hcz105_2 : w104.cell? ⟨gb135, 2, none⟩ = some (.int .i64 0) := (blk_cell BK135.out 2).trans rfl; have hfz105_0 := blk_frozen BK135.out 0; have hfz105_1 := blk_frozen BK135.out 1; have hfz105_2 := blk_frozen BK135.out 2))
          go_ret
          exact ⟨by first | rfl | (simp [errW_none, errW_some] <;> rfl) | (simp [*, errW_none, errW_some] <;> rfl), by repeat (first | (with_reducible first | exact HB.out | apply below_alloc | apply pw_below_drewN | apply below_drew1 | refine below_set ?_ GE135.out) | exact HB.out)⟩

/-- THE ONE PURE STATEMENT of bywashlaw12_WindowEven: yours. -/
def bywashlaw12_WindowEven.Pure : Prop := ∀ (a0 : Int) (l1 : List Int), (Lit.int .i64 a0).wf = true → l1.length ≤ maxLen → l1.length * 8 ≤ 140737488351232 → (∀ x ∈ l1, (Lit.int .i64 x).wf = true) → ∃ k, bywashlaw12_WindowEven.f k a0 l1 = some true
theorem bywashlaw12_WindowEven.walk (P : bywashlaw12_WindowEven.Pure) (a0 : Int) (a1 : Option Addr) (len1 cap1 : Nat) (z1 : List Int) (w : World) (w0 : (Lit.int .i64 a0).wf = true) (w1 : (a1 = none ∧ len1 = 0 ∧ cap1 = 0 ∧ z1 = []) ∨ ∃ x, a1 = some x ∧ len1 ≤ cap1 ∧ cap1 ≤ maxLen ∧ z1.length = cap1 ∧ (∀ i, i < z1.length → w.cell? (x.add i) = some (.int .i64 (z1.getD i 0))) ∧ ∀ n ∈ z1, (Lit.int .i64 n).wf = true) (y1 : len1 * 8 ≤ 140737488351232) :
    Calls Try.prog 3 #[.int .i64 a0, .slice a1 len1 cap1] w fun e w' => e = .returned (.bool true) ∧ Below w.heap.size w w' := by
  obtain ⟨l1, rfl, hr1, hm1, hw1, hc1⟩ := ReadsInt.ofRowC w1
  obtain ⟨k, h⟩ := P a0 l1 w0 hm1 y1 hw1
  refine (bywashlaw12_WindowEven.calls k a0 _ _ l1 true w (Kd.C_of_reads (d := (0 : Int)) (h1 := fun _ => rfl) hr1) hc1 h).mono ?_
  rintro e w' ⟨rfl, hd⟩
  exact ⟨rfl, hd⟩

end Go.Proofs.Ytodimdhhmifdfaa.PWindowEven
