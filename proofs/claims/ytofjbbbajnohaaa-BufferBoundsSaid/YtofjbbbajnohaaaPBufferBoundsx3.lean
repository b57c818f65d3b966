-- Written by a program of this session (the kit's printer, turned): the functions that the law reaches.
import Derived.Test.YtofjbbbajnohaaaPBufferBoundsx0
import Derived.Test.YtofjbbbajnohaaaPBufferBoundsx1
import Derived.Test.YtofjbbbajnohaaaPBufferBoundsx2
namespace Go.Proofs.Ytofjbbbajnohaaa.PBufferBounds
open Go.RowKit Go.Proofs.YtofjbbbajnohaaaW.PrintWords Go.Proofs.YtofjbbbajnohaaaW.PrintLast Go.Proofs.YtofjbbbajnohaaaW.PrintMore
attribute [local go_sem] max2_int min2_int max_two min_two max_three min_three max_four min_four   -- for this text's walks alone
set_option linter.unusedVariables false
set_option linter.unusedSimpArgs false

/-! ### bywashlaw13_BufferBounds: function 5 -/
mutual
def bywashlaw13_BufferBounds.j0 : Nat → Int → List ByteArray → Bool → Option (Bool)
  | 0, _, _, _ => none
  | k + 1, x0, x1, x23 => if x23 = true then ((bywashlaw13_alive.f k).bind fun t171 => (some t171)) else ((buffer_New.f x0).bind fun bt172 => (bywashlaw13_BufferBounds.l0 k x0 0 x1 (x1.length : Int) 0 bt172.1 bt172.2.1 bt172.2.2))
def bywashlaw13_BufferBounds.l0 : Nat → Int → Int → List ByteArray → Int → Int → ByteArray → Int → Bool → Option (Bool)
  | 0, _, _, _, _, _, _, _, _ => none
  | k + 1, x0, x6, x29, x30, x31, x176000, x176001, x176002 => if x31 < x30 then (if 0 ≤ x31 then (if x31 < (x29.length : Int) then (if ((rdOf ByteArray.empty x29 x31).size : Int) > 600 then (some true) else ((buffer_Buffer_Put.f x176000 x176001 x176002 (rdOf ByteArray.empty x29 x31)).bind fun bt177 => (if bt177.1 = true then (if (wrap64 (x6 + ((rdOf ByteArray.empty x29 x31).size : Int))) ≤ x0 then ((buffer_Buffer_Len.f bt177.2.1 bt177.2.2.1 bt177.2.2.2).bind fun bt181 => (if bt181.1 = (wrap64 (x6 + ((rdOf ByteArray.empty x29 x31).size : Int))) then (bywashlaw13_BufferBounds.j2 k x0 (wrap64 (x6 + ((rdOf ByteArray.empty x29 x31).size : Int))) x29 x30 x31 (decide ((wrap64 (x6 + ((rdOf ByteArray.empty x29 x31).size : Int))) > x0)) bt181.2.1 bt181.2.2.1 bt181.2.2.2) else (bywashlaw13_BufferBounds.j2 k x0 (wrap64 (x6 + ((rdOf ByteArray.empty x29 x31).size : Int))) x29 x30 x31 true bt181.2.1 bt181.2.2.1 bt181.2.2.2))) else (some false)) else (if (wrap64 (x6 + ((rdOf ByteArray.empty x29 x31).size : Int))) ≤ x0 then (some false) else ((buffer_Buffer_Len.f bt177.2.1 bt177.2.2.1 bt177.2.2.2).bind fun bt185 => (if bt185.1 = x6 then (bywashlaw13_BufferBounds.j3 k x0 x6 x29 x30 x31 (decide (x6 > x0)) bt185.2.1 bt185.2.2.1 bt185.2.2.2) else (bywashlaw13_BufferBounds.j3 k x0 x6 x29 x30 x31 true bt185.2.1 bt185.2.2.1 bt185.2.2.2))))))) else (none)) else (none)) else ((buffer_Buffer_Drop.f x176000 x176001 x176002).bind fun bt189 => (if bt189.1 = x6 then ((buffer_Buffer_Len.f bt189.2.1 bt189.2.2.1 bt189.2.2.2).bind fun bt193 => (if bt193.1 = 0 then ((buffer_Buffer_Done.f bt193.2.1 bt193.2.2.1 bt193.2.2.2).bind fun bt197 => (if bt197.1 = true then ((buffer_Buffer_Put.f bt197.2.1 bt197.2.2.1 bt197.2.2.2 (⟨#[]⟩ : ByteArray)).bind fun bt201 => (bywashlaw13_BufferBounds.j5 k (!bt201.1))) else (bywashlaw13_BufferBounds.j5 k false))) else (bywashlaw13_BufferBounds.j5 k false))) else (bywashlaw13_BufferBounds.j5 k false)))
def bywashlaw13_BufferBounds.j4 : Nat → Int → Int → List ByteArray → Int → Int → ByteArray → Int → Bool → Option (Bool)
  | 0, _, _, _, _, _, _, _, _ => none
  | k + 1, x0, x6, x29, x30, x31, x176000, x176001, x176002 => bywashlaw13_BufferBounds.l0 k x0 x6 x29 x30 (wrap64 (x31 + 1)) x176000 x176001 x176002
def bywashlaw13_BufferBounds.j2 : Nat → Int → Int → List ByteArray → Int → Int → Bool → ByteArray → Int → Bool → Option (Bool)
  | 0, _, _, _, _, _, _, _, _, _ => none
  | k + 1, x0, x6, x29, x30, x31, x66, x176000, x176001, x176002 => if x66 = true then (some false) else (bywashlaw13_BufferBounds.j4 k x0 x6 x29 x30 x31 x176000 x176001 x176002)
def bywashlaw13_BufferBounds.j3 : Nat → Int → Int → List ByteArray → Int → Int → Bool → ByteArray → Int → Bool → Option (Bool)
  | 0, _, _, _, _, _, _, _, _, _ => none
  | k + 1, x0, x6, x29, x30, x31, x66, x176000, x176001, x176002 => if x66 = true then (some false) else (bywashlaw13_BufferBounds.j4 k x0 x6 x29 x30 x31 x176000 x176001 x176002)
def bywashlaw13_BufferBounds.j5 : Nat → Bool → Option (Bool)
  | 0, _ => none
  | k + 1, x4 => some x4
end
def bywashlaw13_BufferBounds.f (k : Nat) (a0 : Int) (l1 : List ByteArray) : Option (Bool) := if a0 < 1 then (bywashlaw13_BufferBounds.j0 k a0 l1 true) else (if a0 > 1000 then (bywashlaw13_BufferBounds.j0 k a0 l1 true) else (if (l1.length : Int) > 40 then (bywashlaw13_BufferBounds.j0 k a0 l1 true) else ((bywashlaw13_alive.f k).bind fun t170 => (bywashlaw13_BufferBounds.j0 k a0 l1 (!t170)))))
theorem bywashlaw13_BufferBounds.mono_l : ∀ k, (∀ y0 y1 y2, LeO (bywashlaw13_BufferBounds.j0 k y0 y1 y2) (bywashlaw13_BufferBounds.j0 (k + 1) y0 y1 y2)) ∧ (∀ y0 y1 y2 y3 y4 y5 y6 y7, LeO (bywashlaw13_BufferBounds.l0 k y0 y1 y2 y3 y4 y5 y6 y7) (bywashlaw13_BufferBounds.l0 (k + 1) y0 y1 y2 y3 y4 y5 y6 y7)) ∧ (∀ y0 y1 y2 y3 y4 y5 y6 y7, LeO (bywashlaw13_BufferBounds.j4 k y0 y1 y2 y3 y4 y5 y6 y7) (bywashlaw13_BufferBounds.j4 (k + 1) y0 y1 y2 y3 y4 y5 y6 y7)) ∧ (∀ y0 y1 y2 y3 y4 y5 y6 y7 y8, LeO (bywashlaw13_BufferBounds.j2 k y0 y1 y2 y3 y4 y5 y6 y7 y8) (bywashlaw13_BufferBounds.j2 (k + 1) y0 y1 y2 y3 y4 y5 y6 y7 y8)) ∧ (∀ y0 y1 y2 y3 y4 y5 y6 y7 y8, LeO (bywashlaw13_BufferBounds.j3 k y0 y1 y2 y3 y4 y5 y6 y7 y8) (bywashlaw13_BufferBounds.j3 (k + 1) y0 y1 y2 y3 y4 y5 y6 y7 y8)) ∧ (∀ y0, LeO (bywashlaw13_BufferBounds.j5 k y0) (bywashlaw13_BufferBounds.j5 (k + 1) y0))
  | 0 => ⟨fun _ _ _ r h => by simp [bywashlaw13_BufferBounds.j0] at h, fun _ _ _ _ _ _ _ _ r h => by simp [bywashlaw13_BufferBounds.l0] at h, fun _ _ _ _ _ _ _ _ r h => by simp [bywashlaw13_BufferBounds.j4] at h, fun _ _ _ _ _ _ _ _ _ r h => by simp [bywashlaw13_BufferBounds.j2] at h, fun _ _ _ _ _ _ _ _ _ r h => by simp [bywashlaw13_BufferBounds.j3] at h, fun _ r h => by simp [bywashlaw13_BufferBounds.j5] at h⟩
  | k + 1 => by
    obtain ⟨ih0, ih1, ih2, ih3, ih4, ih5⟩ := bywashlaw13_BufferBounds.mono_l k
    refine ⟨?_, ?_, ?_, ?_, ?_, ?_⟩
    · intro y0 y1 y2
      unfold bywashlaw13_BufferBounds.j0
      repeat' first
      | (with_reducible exact ih0 _ _ _)
      | (with_reducible exact ih1 _ _ _ _ _ _ _ _)
      | (with_reducible exact ih2 _ _ _ _ _ _ _ _)
      | (with_reducible exact ih3 _ _ _ _ _ _ _ _ _)
      | (with_reducible exact ih4 _ _ _ _ _ _ _ _ _)
      | (with_reducible exact ih5 _)
      | (with_reducible exact bywashlaw13_alive.mono _)
      | (with_reducible exact LeO.refl _)
      | (with_reducible exact LeO.none _)
      | (with_reducible refine LeO.ite ?_ ?_)
      | (with_reducible refine LeO.bind ?_ (fun _ => ?_))
      | exact ih0 _ _ _
      | exact ih1 _ _ _ _ _ _ _ _
      | exact ih2 _ _ _ _ _ _ _ _
      | exact ih3 _ _ _ _ _ _ _ _ _
      | exact ih4 _ _ _ _ _ _ _ _ _
      | exact ih5 _
      | exact bywashlaw13_alive.mono _
      | exact LeO.none _
      | refine LeO.ite ?_ ?_
      | refine LeO.bind ?_ (fun _ => ?_)
    · intro y0 y1 y2 y3 y4 y5 y6 y7
      unfold bywashlaw13_BufferBounds.l0
      repeat' first
      | (with_reducible exact ih0 _ _ _)
      | (with_reducible exact ih1 _ _ _ _ _ _ _ _)
      | (with_reducible exact ih2 _ _ _ _ _ _ _ _)
      | (with_reducible exact ih3 _ _ _ _ _ _ _ _ _)
      | (with_reducible exact ih4 _ _ _ _ _ _ _ _ _)
      | (with_reducible exact ih5 _)
      | (with_reducible exact bywashlaw13_alive.mono _)
      | (with_reducible exact LeO.refl _)
      | (with_reducible exact LeO.none _)
      | (with_reducible refine LeO.ite ?_ ?_)
      | (with_reducible refine LeO.bind ?_ (fun _ => ?_))
      | exact ih0 _ _ _
      | exact ih1 _ _ _ _ _ _ _ _
      | exact ih2 _ _ _ _ _ _ _ _
      | exact ih3 _ _ _ _ _ _ _ _ _
      | exact ih4 _ _ _ _ _ _ _ _ _
      | exact ih5 _
      | exact bywashlaw13_alive.mono _
      | exact LeO.none _
      | refine LeO.ite ?_ ?_
      | refine LeO.bind ?_ (fun _ => ?_)
    · intro y0 y1 y2 y3 y4 y5 y6 y7
      unfold bywashlaw13_BufferBounds.j4
      repeat' first
      | (with_reducible exact ih0 _ _ _)
      | (with_reducible exact ih1 _ _ _ _ _ _ _ _)
      | (with_reducible exact ih2 _ _ _ _ _ _ _ _)
      | (with_reducible exact ih3 _ _ _ _ _ _ _ _ _)
      | (with_reducible exact ih4 _ _ _ _ _ _ _ _ _)
      | (with_reducible exact ih5 _)
      | (with_reducible exact bywashlaw13_alive.mono _)
      | (with_reducible exact LeO.refl _)
      | (with_reducible exact LeO.none _)
      | (with_reducible refine LeO.ite ?_ ?_)
      | (with_reducible refine LeO.bind ?_ (fun _ => ?_))
      | exact ih0 _ _ _
      | exact ih1 _ _ _ _ _ _ _ _
      | exact ih2 _ _ _ _ _ _ _ _
      | exact ih3 _ _ _ _ _ _ _ _ _
      | exact ih4 _ _ _ _ _ _ _ _ _
      | exact ih5 _
      | exact bywashlaw13_alive.mono _
      | exact LeO.none _
      | refine LeO.ite ?_ ?_
      | refine LeO.bind ?_ (fun _ => ?_)
    · intro y0 y1 y2 y3 y4 y5 y6 y7 y8
      unfold bywashlaw13_BufferBounds.j2
      repeat' first
      | (with_reducible exact ih0 _ _ _)
      | (with_reducible exact ih1 _ _ _ _ _ _ _ _)
      | (with_reducible exact ih2 _ _ _ _ _ _ _ _)
      | (with_reducible exact ih3 _ _ _ _ _ _ _ _ _)
      | (with_reducible exact ih4 _ _ _ _ _ _ _ _ _)
      | (with_reducible exact ih5 _)
      | (with_reducible exact bywashlaw13_alive.mono _)
      | (with_reducible exact LeO.refl _)
      | (with_reducible exact LeO.none _)
      | (with_reducible refine LeO.ite ?_ ?_)
      | (with_reducible refine LeO.bind ?_ (fun _ => ?_))
      | exact ih0 _ _ _
      | exact ih1 _ _ _ _ _ _ _ _
      | exact ih2 _ _ _ _ _ _ _ _
      | exact ih3 _ _ _ _ _ _ _ _ _
      | exact ih4 _ _ _ _ _ _ _ _ _
      | exact ih5 _
      | exact bywashlaw13_alive.mono _
      | exact LeO.none _
      | refine LeO.ite ?_ ?_
      | refine LeO.bind ?_ (fun _ => ?_)
    · intro y0 y1 y2 y3 y4 y5 y6 y7 y8
      unfold bywashlaw13_BufferBounds.j3
      repeat' first
      | (with_reducible exact ih0 _ _ _)
      | (with_reducible exact ih1 _ _ _ _ _ _ _ _)
      | (with_reducible exact ih2 _ _ _ _ _ _ _ _)
      | (with_reducible exact ih3 _ _ _ _ _ _ _ _ _)
      | (with_reducible exact ih4 _ _ _ _ _ _ _ _ _)
      | (with_reducible exact ih5 _)
      | (with_reducible exact bywashlaw13_alive.mono _)
      | (with_reducible exact LeO.refl _)
      | (with_reducible exact LeO.none _)
      | (with_reducible refine LeO.ite ?_ ?_)
      | (with_reducible refine LeO.bind ?_ (fun _ => ?_))
      | exact ih0 _ _ _
      | exact ih1 _ _ _ _ _ _ _ _
      | exact ih2 _ _ _ _ _ _ _ _
      | exact ih3 _ _ _ _ _ _ _ _ _
      | exact ih4 _ _ _ _ _ _ _ _ _
      | exact ih5 _
      | exact bywashlaw13_alive.mono _
      | exact LeO.none _
      | refine LeO.ite ?_ ?_
      | refine LeO.bind ?_ (fun _ => ?_)
    · intro y0
      unfold bywashlaw13_BufferBounds.j5
      repeat' first
      | (with_reducible exact ih0 _ _ _)
      | (with_reducible exact ih1 _ _ _ _ _ _ _ _)
      | (with_reducible exact ih2 _ _ _ _ _ _ _ _)
      | (with_reducible exact ih3 _ _ _ _ _ _ _ _ _)
      | (with_reducible exact ih4 _ _ _ _ _ _ _ _ _)
      | (with_reducible exact ih5 _)
      | (with_reducible exact bywashlaw13_alive.mono _)
      | (with_reducible exact LeO.refl _)
      | (with_reducible exact LeO.none _)
      | (with_reducible refine LeO.ite ?_ ?_)
      | (with_reducible refine LeO.bind ?_ (fun _ => ?_))
      | exact ih0 _ _ _
      | exact ih1 _ _ _ _ _ _ _ _
      | exact ih2 _ _ _ _ _ _ _ _
      | exact ih3 _ _ _ _ _ _ _ _ _
      | exact ih4 _ _ _ _ _ _ _ _ _
      | exact ih5 _
      | exact bywashlaw13_alive.mono _
      | exact LeO.none _
      | refine LeO.ite ?_ ?_
      | refine LeO.bind ?_ (fun _ => ?_)
theorem bywashlaw13_BufferBounds.mono : ∀ a0 a1 k, LeO (bywashlaw13_BufferBounds.f k a0 a1) (bywashlaw13_BufferBounds.f (k + 1) a0 a1) := by
  intro a0 a1 k
  obtain ⟨ih0, ih1, ih2, ih3, ih4, ih5⟩ := bywashlaw13_BufferBounds.mono_l k
  unfold bywashlaw13_BufferBounds.f
  repeat' first
      | (with_reducible exact ih0 _ _ _)
      | (with_reducible exact ih1 _ _ _ _ _ _ _ _)
      | (with_reducible exact ih2 _ _ _ _ _ _ _ _)
      | (with_reducible exact ih3 _ _ _ _ _ _ _ _ _)
      | (with_reducible exact ih4 _ _ _ _ _ _ _ _ _)
      | (with_reducible exact ih5 _)
      | (with_reducible exact bywashlaw13_alive.mono _)
      | (with_reducible exact LeO.refl _)
      | (with_reducible exact LeO.none _)
      | (with_reducible refine LeO.ite ?_ ?_)
      | (with_reducible refine LeO.bind ?_ (fun _ => ?_))
      | exact ih0 _ _ _
      | exact ih1 _ _ _ _ _ _ _ _
      | exact ih2 _ _ _ _ _ _ _ _
      | exact ih3 _ _ _ _ _ _ _ _ _
      | exact ih4 _ _ _ _ _ _ _ _ _
      | exact ih5 _
      | exact bywashlaw13_alive.mono _
      | exact LeO.none _
      | refine LeO.ite ?_ ?_
      | refine LeO.bind ?_ (fun _ => ?_)
set_option maxHeartbeats 8000000 in
set_option maxRecDepth 100000 in
theorem bywashlaw13_BufferBounds.calls (k : Nat) (a0 : Int) (A1 : Option Addr) (c1 : Nat) (l1 : List ByteArray) (r : Bool) (w : World) (hr1 : Kd.C Kd.string w A1 l1.length l1) (hc1 : l1.length ≤ c1) (h : bywashlaw13_BufferBounds.f k a0 l1 = some r) :
    Calls Try.prog 5 #[.int .i64 a0, .slice A1 l1.length c1] w fun e w' => e = .returned (.bool r) ∧ Below w.heap.size w w' := by
  have HR1 := Aside0.mk hr1
  have HC1 := Aside0.mk hc1
  clear hr1 hc1
  have HB := Aside0.mk (Below.refl w.heap.size w)
  have H : (if a0 < 1 then (bywashlaw13_BufferBounds.j0 k a0 l1 true) else (if a0 > 1000 then (bywashlaw13_BufferBounds.j0 k a0 l1 true) else (if (l1.length : Int) > 40 then (bywashlaw13_BufferBounds.j0 k a0 l1 true) else ((bywashlaw13_alive.f k).bind fun t170 => (bywashlaw13_BufferBounds.j0 k a0 l1 (!t170)))))) = some r := h
  clear h
  have HC3 := Aside0.mk H
  clear H
  go_enter Try.func5, Try.ntmps5
  go_upto_region 1 with (fail)
  go_cut [23] (fun v23 wc => ∃ (kq : Nat) (x23_2 : Bool), v23 = .bool x23_2 ∧ Aside0 (bywashlaw13_BufferBounds.j0 kq a0 l1 x23_2 = some r) ∧ Aside0 (kq ≤ k) ∧ Aside0 (Below w.heap.size w wc))
  case first =>
    have H := HC3.out
    clear HC3
    by_cases c4 : a0 < 1
    · rw [if_pos c4] at H
      have c4b0 : decide (a0 < 1) = true := decide_eq_true c4
      clear c4
      (first | rw [c4b0] | (simp only [i64_w, i32_w]; rw [c4b0]) | skip)
      have H' := Aside0.mk H
      clear H
      go_wp2
      go_meet
      case rel => exact ⟨_, (true), (by first | rfl | (simp; done) | (simp [*]; done)), H', ⟨by first | omega | exact Nat.le_refl _⟩, ⟨by repeat (first | (with_reducible first | exact HB.out | apply below_alloc | apply pw_below_drewN | apply below_drew1) | exact HB.out)⟩⟩
    · rw [if_neg c4] at H
      have c4b0 : decide (a0 < 1) = false := decide_eq_false c4
      clear c4
      (first | rw [c4b0] | (simp only [i64_w, i32_w]; rw [c4b0]) | skip)
      by_cases c5 : a0 > 1000
      · rw [if_pos c5] at H
        have c5b0 : decide (1000 < a0) = true := decide_eq_true c5
        clear c5
        have H' := Aside0.mk H
        clear H
        go_wp2
        go_meet
        case rel => exact ⟨_, (true), (by first | rfl | (simp; done) | (simp [*]; done)), H', ⟨by first | omega | exact Nat.le_refl _⟩, ⟨by repeat (first | (with_reducible first | exact HB.out | apply below_alloc | apply pw_below_drewN | apply below_drew1) | exact HB.out)⟩⟩
      · rw [if_neg c5] at H
        have c5b0 : decide (1000 < a0) = false := decide_eq_false c5
        clear c5
        by_cases c6 : (l1.length : Int) > 40
        · rw [if_pos c6] at H
          have c6b0 : decide (40 < (l1.length : Int)) = true := decide_eq_true c6
          have c6b1 : decide (40 < l1.length) = true := decide_eq_true (by omega)
          clear c6
          have H' := Aside0.mk H
          clear H
          go_wp2
          go_meet
          case rel => exact ⟨_, (true), (by first | rfl | (simp; done) | (simp [*]; done)), H', ⟨by first | omega | exact Nat.le_refl _⟩, ⟨by repeat (first | (with_reducible first | exact HB.out | apply below_alloc | apply pw_below_drewN | apply below_drew1) | exact HB.out)⟩⟩
        · rw [if_neg c6] at H
          have c6b0 : decide (40 < (l1.length : Int)) = false := decide_eq_false c6
          have c6b1 : decide (40 < l1.length) = false := decide_eq_false (by omega)
          clear c6
          replace H := Option.bind_eq_some_iff.mp H
          obtain ⟨t170, A70, H⟩ := H
          replace H : (bywashlaw13_BufferBounds.j0 k a0 l1 (!t170)) = some r := H
          have A7 := Aside0.mk A70
          clear A70
          have H' := Aside0.mk H
          clear H
          go_wp2_with (first | (go_at_call 7; (with_reducible refine (bywashlaw13_alive.calls k  t170 _ A7.out).mono ?_); rintro e w8 ⟨rfl, hb⟩; have n0_ := Aside0.mk (below_step (by repeat (first | (with_reducible first | exact HB.out | apply below_alloc | apply pw_below_drewN | apply below_drew1) | exact HB.out)) hb); clear HB; have HB := n0_; clear n0_; (try clear hb); (try clear hb2); (try clear hk); (try clear hi)))
          go_meet
          case rel => exact ⟨_, (!t170), (by first | rfl | (simp; done) | (simp [*]; done)), H', ⟨by first | omega | exact Nat.le_refl _⟩, ⟨by repeat (first | (with_reducible first | exact HB.out | apply below_alloc | apply pw_below_drewN | apply below_drew1) | exact HB.out)⟩⟩
  case rest =>
    clear HC3
    try clear c1
    try clear p2
    try clear c4
    try clear c4b0
    try clear c5
    try clear c5b0
    try clear c6
    try clear c6b0
    try clear c6b1
    obtain ⟨kq, x23_2, rfl, HA, HJ2, HB⟩ := hcut
    cases kq with
    | zero => exact absurd HA.out (by simp [bywashlaw13_BufferBounds.j0])
    | succ kj2 =>
      have H := HA.out
      clear HA
      simp only [bywashlaw13_BufferBounds.j0] at H
      by_cases c9 : x23_2 = true
      · subst c9
        have H1 : ((bywashlaw13_alive.f kj2).bind fun t171 => (some t171)) = some r := by rw [if_pos rfl] at H; exact H
        clear H
        have H := H1
        clear H1
        replace H := Option.bind_eq_some_iff.mp H
        obtain ⟨t171, A100, H⟩ := H
        replace H : (some t171) = some r := H
        have A10 := Aside0.mk A100
        clear A100
        obtain rfl := Option.some.inj H
        go_wp2_with (first | ((with_reducible refine gate_callee (f := 7) rfl ?_); refine goesL_ (some 24) rfl rfl Try.func7 (by kernel_rfl) rfl #[] rfl (by (try simp only [List.map_toArray, List.map_cons, List.map_nil]); first | done | rfl | (simp only [List.length_drop, List.length_take]; rfl)) ?_; (with_reducible refine (bywashlaw13_alive.calls kj2  t171 _ A10.out).mono ?_); rintro e w11 ⟨rfl, hb⟩; refine ⟨_, rfl, ?_⟩; have n0_ := Aside0.mk (below_step (by repeat (first | (with_reducible first | exact HB.out | apply below_alloc | apply pw_below_drewN | apply below_drew1) | exact HB.out)) hb); clear HB; have HB := n0_; clear n0_; (try clear hb); (try clear hb2); (try clear hk); (try clear hi)))
        go_ret
        exact ⟨by first | rfl | (simp [errW_none, errW_some] <;> rfl) | (simp [*, errW_none, errW_some] <;> rfl), by repeat (first | (with_reducible first | exact HB.out | apply below_alloc | apply pw_below_drewN | apply below_drew1) | exact HB.out)⟩
      · replace c9 := Bool.eq_false_iff.mpr c9
        subst c9
        have H1 : ((buffer_New.f a0).bind fun bt172 => (bywashlaw13_BufferBounds.l0 kj2 a0 0 l1 (l1.length : Int) 0 bt172.1 bt172.2.1 bt172.2.2)) = some r := by rw [if_neg (show ¬ (false = true) by decide)] at H; exact H
        clear H
        have H := H1
        clear H1
        replace H := Option.bind_eq_some_iff.mp H
        obtain ⟨⟨t172, t173, t174⟩, A120, H⟩ := H
        replace H : (bywashlaw13_BufferBounds.l0 kj2 a0 0 l1 (l1.length : Int) 0 t172 t173 t174) = some r := H
        have A12 := Aside0.mk A120
        clear A120
        have H' := Aside0.mk H
        clear H
        go_wp2_with (first | ((with_reducible refine gate_callee (f := 8) rfl ?_); refine goesL_ (some 26) rfl rfl Try.func8 (by kernel_rfl) rfl #[.int .i64 a0] rfl (by (try simp only [List.map_toArray, List.map_cons, List.map_nil]); first | done | rfl | (simp only [List.length_drop, List.length_take]; rfl)) ?_; (with_reducible refine (buffer_New.calls a0 t172 t173 t174 w _ ?side1 A12.out).mono ?_); (case side1 => repeat (first | (with_reducible first | exact HB.out | apply below_alloc | apply pw_below_drewN | apply below_drew1) | exact HB.out)); rintro e w13 ⟨g175, rfl, hi, hb, hb2⟩; refine ⟨_, rfl, ?_⟩; have n0_ := Aside0.mk (hb); have n1_ := Aside0.mk (hi); clear HB; have HB := n0_; have HI175 := n1_; clear n0_ n1_; (try clear hb); (try clear hb2); (try clear hk); (try clear hi)))
        go_loopg [6, 31] kj2 (fun kq v6 v31 w' => ∃ (x6_2 : Int) (x31_2 : Int) (x176000_2 : ByteArray) (x176001_2 : Int) (x176002_2 : Bool), v6 = .int .i64 x6_2 ∧ v31 = .int .i64 x31_2 ∧ Aside0 (bywashlaw13_BufferBounds.l0 kq a0 x6_2 l1 (l1.length : Int) x31_2 x176000_2 x176001_2 x176002_2 = some r) ∧ Aside0 (kq ≤ kj2) ∧ Aside0 (IsS38 w w' g175 x176000_2 x176001_2 x176002_2) ∧ Aside0 (Below w.heap.size w w'))
        case atStart => exact ⟨(0), (0), (t172), (t173), (t174), (by first | rfl | (simp; done) | (simp [*]; done)), (by first | rfl | (simp; done) | (simp [*]; done)), H', ⟨Nat.le_refl _⟩, ⟨by repeat (first | (with_reducible first | exact HI175.out | apply IsS38.alloc | apply IsS38.drewN | apply IsS38.drew | apply IsS38.set_0 | apply IsS38.set_1 | apply IsS38.set_2) | exact HI175.out)⟩, ⟨by repeat (first | (with_reducible first | exact HB.out | apply below_alloc | apply pw_below_drewN | apply below_drew1 | refine below_set ?_ (IsS38.ge HI175.out)) | exact HB.out)⟩⟩
        case round =>
          clear H'
          try clear c1
          try clear p2
          try clear c4
          try clear c4b0
          try clear c5
          try clear c5b0
          try clear c6
          try clear c6b0
          try clear c6b1
          try clear c7
          try clear c8
          try clear c9
          try clear p2
          obtain ⟨x6_2, x31_2, x176000_2, x176001_2, x176002_2, rfl, rfl, HA, HK2, HI175, HB⟩ := hrel
          cases gk with
          | zero => exact absurd HA.out (by simp [bywashlaw13_BufferBounds.l0])
          | succ k2 =>
            have H := HA.out
            clear HA
            simp only [bywashlaw13_BufferBounds.l0] at H
            by_cases c14 : x31_2 < (l1.length : Int)
            · rw [if_pos c14] at H
              have c14b0 : decide (x31_2 < (l1.length : Int)) = true := decide_eq_true c14
              clear c14
              have HC15 := Aside0.mk H
              clear H
              go_upto_block 1 with (fail)
              go_cut [6] (fun v6 wc => ∃ (kq : Nat) (x6_14 : Int) (x176000_14 : ByteArray) (x176001_14 : Int) (x176002_14 : Bool), v6 = .int .i64 x6_14 ∧ Aside0 (bywashlaw13_BufferBounds.j4 kq a0 x6_14 l1 (l1.length : Int) x31_2 x176000_14 x176001_14 x176002_14 = some r) ∧ Aside0 (kq ≤ k2) ∧ Aside0 (IsS38 w wc g175 x176000_14 x176001_14 x176002_14) ∧ Aside0 (Below w.heap.size w wc))
              case first =>
                have H := HC15.out
                clear HC15
                by_cases c16 : 0 ≤ x31_2
                · rw [if_pos c16] at H
                  have c16b0 : decide (0 ≤ x31_2) = true := decide_eq_true c16
                  clear c16
                  (first | rw [c16b0] | (simp only [i64_w, i32_w]; rw [c16b0]) | skip)
                  by_cases c17 : x31_2 < (l1.length : Int)
                  · rw [if_pos c17] at H
                    have c17b0 : decide (x31_2 < (l1.length : Int)) = true := decide_eq_true c17
                    clear c17
                    by_cases c18 : ((rdOf ByteArray.empty l1 x31_2).size : Int) > 600
                    · rw [if_pos c18] at H
                      have c18b0 : decide (600 < ((rdOf ByteArray.empty l1 x31_2).size : Int)) = true := decide_eq_true c18
                      have c18b1 : decide (600 < (rdOf ByteArray.empty l1 x31_2).size) = true := decide_eq_true (by omega)
                      clear c18
                      obtain rfl := Option.some.inj H
                      have p176 : 0 ≤ (x31_2 : Int) := of_decide_eq_true (by first | (with_reducible assumption) | assumption)
                      have q176 : x31_2 < (l1.length : Int) := of_decide_eq_true (by first | (with_reducible assumption) | assumption)
                      obtain ⟨ad176, e176, hx176_0⟩ := Kd.at_string HR1.out x31_2 p176 q176
                      cases e176
                      replace hx176_0 := (HB.out.cell (World.block_lt_of_cell? w _ hx176_0)).trans hx176_0
                      replace p176 := eq_true p176
                      replace q176 := eq_true q176
                      go_wp2
                      go_ret
                      exact ⟨by first | rfl | (simp [errW_none, errW_some] <;> rfl) | (simp [*, errW_none, errW_some] <;> rfl), by repeat (first | (with_reducible first | exact HB.out | apply below_alloc | apply pw_below_drewN | apply below_drew1 | refine below_set ?_ (IsS38.ge HI175.out)) | exact HB.out)⟩
                    · rw [if_neg c18] at H
                      have c18b0 : decide (600 < ((rdOf ByteArray.empty l1 x31_2).size : Int)) = false := decide_eq_false c18
                      have c18b1 : decide (600 < (rdOf ByteArray.empty l1 x31_2).size) = false := decide_eq_false (by omega)
                      clear c18
                      replace H := Option.bind_eq_some_iff.mp H
                      obtain ⟨⟨t177, t178, t179, t180⟩, A190, H⟩ := H
                      replace H : (if t177 = true then (if (wrap64 (x6_2 + ((rdOf ByteArray.empty l1 x31_2).size : Int))) ≤ a0 then ((buffer_Buffer_Len.f t178 t179 t180).bind fun bt181 => (if bt181.1 = (wrap64 (x6_2 + ((rdOf ByteArray.empty l1 x31_2).size : Int))) then (bywashlaw13_BufferBounds.j2 k2 a0 (wrap64 (x6_2 + ((rdOf ByteArray.empty l1 x31_2).size : Int))) l1 (l1.length : Int) x31_2 (decide ((wrap64 (x6_2 + ((rdOf ByteArray.empty l1 x31_2).size : Int))) > a0)) bt181.2.1 bt181.2.2.1 bt181.2.2.2) else (bywashlaw13_BufferBounds.j2 k2 a0 (wrap64 (x6_2 + ((rdOf ByteArray.empty l1 x31_2).size : Int))) l1 (l1.length : Int) x31_2 true bt181.2.1 bt181.2.2.1 bt181.2.2.2))) else (some false)) else (if (wrap64 (x6_2 + ((rdOf ByteArray.empty l1 x31_2).size : Int))) ≤ a0 then (some false) else ((buffer_Buffer_Len.f t178 t179 t180).bind fun bt185 => (if bt185.1 = x6_2 then (bywashlaw13_BufferBounds.j3 k2 a0 x6_2 l1 (l1.length : Int) x31_2 (decide (x6_2 > a0)) bt185.2.1 bt185.2.2.1 bt185.2.2.2) else (bywashlaw13_BufferBounds.j3 k2 a0 x6_2 l1 (l1.length : Int) x31_2 true bt185.2.1 bt185.2.2.1 bt185.2.2.2))))) = some r := H
                      have A19 := Aside0.mk A190
                      clear A190
                      by_cases c20 : t177 = true
                      · subst c20
                        have H1 : (if (wrap64 (x6_2 + ((rdOf ByteArray.empty l1 x31_2).size : Int))) ≤ a0 then ((buffer_Buffer_Len.f t178 t179 t180).bind fun bt181 => (if bt181.1 = (wrap64 (x6_2 + ((rdOf ByteArray.empty l1 x31_2).size : Int))) then (bywashlaw13_BufferBounds.j2 k2 a0 (wrap64 (x6_2 + ((rdOf ByteArray.empty l1 x31_2).size : Int))) l1 (l1.length : Int) x31_2 (decide ((wrap64 (x6_2 + ((rdOf ByteArray.empty l1 x31_2).size : Int))) > a0)) bt181.2.1 bt181.2.2.1 bt181.2.2.2) else (bywashlaw13_BufferBounds.j2 k2 a0 (wrap64 (x6_2 + ((rdOf ByteArray.empty l1 x31_2).size : Int))) l1 (l1.length : Int) x31_2 true bt181.2.1 bt181.2.2.1 bt181.2.2.2))) else (some false)) = some r := by rw [if_pos rfl] at H; exact H
                        clear H
                        have H := H1
                        clear H1
                        by_cases c21 : (wrap64 (x6_2 + ((rdOf ByteArray.empty l1 x31_2).size : Int))) ≤ a0
                        · rw [if_pos c21] at H
                          have c21b0 : decide ((wrap64 (x6_2 + ((rdOf ByteArray.empty l1 x31_2).size : Int))) ≤ a0) = true := decide_eq_true c21
                          clear c21
                          have HC22 := Aside0.mk H
                          clear H
                          have p176 : 0 ≤ (x31_2 : Int) := of_decide_eq_true (by first | (with_reducible assumption) | assumption)
                          have q176 : x31_2 < (l1.length : Int) := of_decide_eq_true (by first | (with_reducible assumption) | assumption)
                          obtain ⟨ad176, e176, hx176_0⟩ := Kd.at_string HR1.out x31_2 p176 q176
                          cases e176
                          replace hx176_0 := (HB.out.cell (World.block_lt_of_cell? w _ hx176_0)).trans hx176_0
                          replace p176 := eq_true p176
                          replace q176 := eq_true q176
                          go_upto_region 16 with (first | ((with_reducible refine gate_callee (f := 9) rfl ?_); refine goesL_ (some 40) rfl rfl Try.func9 (by kernel_rfl) rfl #[.pointer (some ⟨g175, 0, none⟩), .string (rdOf ByteArray.empty l1 x31_2)] rfl (by (try simp only [List.map_toArray, List.map_cons, List.map_nil]); first | done | rfl | (simp only [List.length_drop, List.length_take]; rfl)) ?_; (with_reducible refine (buffer_Buffer_Put.calls g175 x176000_2 x176001_2 x176002_2 (rdOf ByteArray.empty l1 x31_2) true t178 t179 t180 w _ ?side1 ?side2 A19.out).mono ?_); (case side1 => repeat (first | (with_reducible first | exact HI175.out | apply IsS38.alloc | apply IsS38.drewN | apply IsS38.drew | apply IsS38.set_0 | apply IsS38.set_1 | apply IsS38.set_2) | exact HI175.out)); (case side2 => repeat (first | (with_reducible first | exact HB.out | apply below_alloc | apply pw_below_drewN | apply below_drew1 | refine below_set ?_ (IsS38.ge HI175.out)) | exact HB.out)); rintro e w23 ⟨rfl, hi, hb, hk⟩; refine ⟨_, rfl, ?_⟩; have n0_ := Aside0.mk (hb); have n1_ := Aside0.mk (hi); clear HB; clear HI175; have HB := n0_; have HI175 := n1_; clear n0_ n1_; (try clear hb); (try clear hb2); (try clear hk); (try clear hi)))
                          (try simp only [Act.put, List.setIfInBounds_toArray, List.set_cons_zero, List.set_cons_succ])
                          go_cut [66] (fun v66 wc => ∃ (kq : Nat) (x66_21 : Bool) (x176000_21 : ByteArray) (x176001_21 : Int) (x176002_21 : Bool), v66 = .bool x66_21 ∧ Aside0 (bywashlaw13_BufferBounds.j2 kq a0 (wrap64 (x6_2 + ((rdOf ByteArray.empty l1 x31_2).size : Int))) l1 (l1.length : Int) x31_2 x66_21 x176000_21 x176001_21 x176002_21 = some r) ∧ Aside0 (kq ≤ k2) ∧ Aside0 (IsS38 w wc g175 x176000_21 x176001_21 x176002_21) ∧ Aside0 (Below w.heap.size w wc))
                          case first =>
                            have H := HC22.out
                            clear HC22
                            replace H := Option.bind_eq_some_iff.mp H
                            obtain ⟨⟨t181, t182, t183, t184⟩, A240, H⟩ := H
                            replace H : (if t181 = (wrap64 (x6_2 + ((rdOf ByteArray.empty l1 x31_2).size : Int))) then (bywashlaw13_BufferBounds.j2 k2 a0 (wrap64 (x6_2 + ((rdOf ByteArray.empty l1 x31_2).size : Int))) l1 (l1.length : Int) x31_2 (decide ((wrap64 (x6_2 + ((rdOf ByteArray.empty l1 x31_2).size : Int))) > a0)) t182 t183 t184) else (bywashlaw13_BufferBounds.j2 k2 a0 (wrap64 (x6_2 + ((rdOf ByteArray.empty l1 x31_2).size : Int))) l1 (l1.length : Int) x31_2 true t182 t183 t184)) = some r := H
                            have A24 := Aside0.mk A240
                            clear A240
                            by_cases c25 : t181 = (wrap64 (x6_2 + ((rdOf ByteArray.empty l1 x31_2).size : Int)))
                            · rw [if_pos c25] at H
                              have c25b0 : (t181 == (wrap64 (x6_2 + ((rdOf ByteArray.empty l1 x31_2).size : Int)))) = true := beq_iff_eq.mpr c25
                              have c25b1 : (t181 != (wrap64 (x6_2 + ((rdOf ByteArray.empty l1 x31_2).size : Int)))) = false := bne_eq_false_iff_eq.mpr c25
                              clear c25
                              (first | rw [c25b0] | (simp only [i64_w, i32_w]; rw [c25b0]) | skip)
                              have H' := Aside0.mk H
                              clear H
                              go_wp2_with (first | ((with_reducible refine gate_callee (f := 11) rfl ?_); refine goesL_ (some 59) rfl rfl Try.func11 (by kernel_rfl) rfl #[.pointer (some ⟨g175, 0, none⟩)] rfl (by (try simp only [List.map_toArray, List.map_cons, List.map_nil]); first | done | rfl | (simp only [List.length_drop, List.length_take]; rfl)) ?_; (with_reducible refine (buffer_Buffer_Len.calls g175 t178 t179 t180 t181 t182 t183 t184 w _ ?side1 ?side2 A24.out).mono ?_); (case side1 => repeat (first | (with_reducible first | exact HI175.out | apply IsS38.alloc | apply IsS38.drewN | apply IsS38.drew | apply IsS38.set_0 | apply IsS38.set_1 | apply IsS38.set_2) | exact HI175.out)); (case side2 => repeat (first | (with_reducible first | exact HB.out | apply below_alloc | apply pw_below_drewN | apply below_drew1 | refine below_set ?_ (IsS38.ge HI175.out)) | exact HB.out)); rintro e w26 ⟨rfl, hi, hb, hk⟩; refine ⟨_, rfl, ?_⟩; have n0_ := Aside0.mk (hb); have n1_ := Aside0.mk (hi); clear HB; clear HI175; have HB := n0_; have HI175 := n1_; clear n0_ n1_; (try clear hb); (try clear hb2); (try clear hk); (try clear hi)))
                              go_meet
                              case rel => exact ⟨_, (decide ((wrap64 (x6_2 + ((rdOf ByteArray.empty l1 x31_2).size : Int))) > a0)), (t182), (t183), (t184), (by first | rfl | (simp; done) | (simp [*]; done)), H', ⟨by have := HJ2.out; have := HK2.out; first | omega | exact Nat.le_refl _⟩, ⟨by repeat (first | (with_reducible first | exact HI175.out | apply IsS38.alloc | apply IsS38.drewN | apply IsS38.drew | apply IsS38.set_0 | apply IsS38.set_1 | apply IsS38.set_2) | exact HI175.out)⟩, ⟨by repeat (first | (with_reducible first | exact HB.out | apply below_alloc | apply pw_below_drewN | apply below_drew1 | refine below_set ?_ (IsS38.ge HI175.out)) | exact HB.out)⟩⟩
                            · rw [if_neg c25] at H
                              have c25b0 : (t181 == (wrap64 (x6_2 + ((rdOf ByteArray.empty l1 x31_2).size : Int)))) = false := beq_eq_false_iff_ne.mpr c25
                              have c25b1 : (t181 != (wrap64 (x6_2 + ((rdOf ByteArray.empty l1 x31_2).size : Int)))) = true := bne_iff_ne.mpr c25
                              (first | rw [c25b0] | (simp only [i64_w, i32_w]; rw [c25b0]) | skip)
                              have H' := Aside0.mk H
                              clear H
                              go_wp2_with (first | ((with_reducible refine gate_callee (f := 11) rfl ?_); refine goesL_ (some 59) rfl rfl Try.func11 (by kernel_rfl) rfl #[.pointer (some ⟨g175, 0, none⟩)] rfl (by (try simp only [List.map_toArray, List.map_cons, List.map_nil]); first | done | rfl | (simp only [List.length_drop, List.length_take]; rfl)) ?_; (with_reducible refine (buffer_Buffer_Len.calls g175 t178 t179 t180 t181 t182 t183 t184 w _ ?side1 ?side2 A24.out).mono ?_); (case side1 => repeat (first | (with_reducible first | exact HI175.out | apply IsS38.alloc | apply IsS38.drewN | apply IsS38.drew | apply IsS38.set_0 | apply IsS38.set_1 | apply IsS38.set_2) | exact HI175.out)); (case side2 => repeat (first | (with_reducible first | exact HB.out | apply below_alloc | apply pw_below_drewN | apply below_drew1 | refine below_set ?_ (IsS38.ge HI175.out)) | exact HB.out)); rintro e w27 ⟨rfl, hi, hb, hk⟩; refine ⟨_, rfl, ?_⟩; have n0_ := Aside0.mk (hb); have n1_ := Aside0.mk (hi); clear HB; clear HI175; have HB := n0_; have HI175 := n1_; clear n0_ n1_; (try clear hb); (try clear hb2); (try clear hk); (try clear hi)))
                              go_meet
                              case rel => exact ⟨_, (true), (t182), (t183), (t184), (by first | rfl | (simp; done) | (simp [*]; done)), H', ⟨by have := HJ2.out; have := HK2.out; first | omega | exact Nat.le_refl _⟩, ⟨by repeat (first | (with_reducible first | exact HI175.out | apply IsS38.alloc | apply IsS38.drewN | apply IsS38.drew | apply IsS38.set_0 | apply IsS38.set_1 | apply IsS38.set_2) | exact HI175.out)⟩, ⟨by repeat (first | (with_reducible first | exact HB.out | apply below_alloc | apply pw_below_drewN | apply below_drew1 | refine below_set ?_ (IsS38.ge HI175.out)) | exact HB.out)⟩⟩
                          case rest =>
                            clear HC22
                            try clear c1
                            try clear p1
                            try clear q1
                            try clear hx1
                            try clear c2
                            try clear p2
                            try clear c4
                            try clear c4b0
                            try clear c5
                            try clear c5b0
                            try clear c6
                            try clear c6b0
                            try clear c6b1
                            try clear p6
                            try clear c7
                            try clear c8
                            try clear c9
                            try clear c11
                            try clear c14
                            try clear c14b0
                            try clear c16
                            try clear c16b0
                            try clear c17
                            try clear c17b0
                            try clear p17
                            try clear q17
                            try clear hx17
                            try clear c18
                            try clear c18b0
                            try clear c18b1
                            try clear c20
                            try clear c21
                            try clear c21b0
                            try clear c25
                            try clear c25b0
                            try clear c25b1
                            try clear hx176_0
                            try clear p176
                            try clear p2
                            try clear q176
                            obtain ⟨kq, x66_21, x176000_21, x176001_21, x176002_21, rfl, HA, HJ21, HI175, HB⟩ := hcut
                            cases kq with
                            | zero => exact absurd HA.out (by simp [bywashlaw13_BufferBounds.j2])
                            | succ kj21 =>
                              have H := HA.out
                              clear HA
                              simp only [bywashlaw13_BufferBounds.j2] at H
                              by_cases c28 : x66_21 = true
                              · subst c28
                                have H1 : (some false) = some r := by rw [if_pos rfl] at H; exact H
                                clear H
                                have H := H1
                                clear H1
                                obtain rfl := Option.some.inj H
                                go_wp2
                                go_ret
                                exact ⟨by first | rfl | (simp [errW_none, errW_some] <;> rfl) | (simp [*, errW_none, errW_some] <;> rfl), by repeat (first | (with_reducible first | exact HB.out | apply below_alloc | apply pw_below_drewN | apply below_drew1 | refine below_set ?_ (IsS38.ge HI175.out)) | exact HB.out)⟩
                              · replace c28 := Bool.eq_false_iff.mpr c28
                                subst c28
                                have H1 : (bywashlaw13_BufferBounds.j4 kj21 a0 (wrap64 (x6_2 + ((rdOf ByteArray.empty l1 x31_2).size : Int))) l1 (l1.length : Int) x31_2 x176000_21 x176001_21 x176002_21) = some r := by rw [if_neg (show ¬ (false = true) by decide)] at H; exact H
                                clear H
                                have H := H1
                                clear H1
                                have H' := Aside0.mk H
                                clear H
                                go_wp2
                                go_meet
                                case rel => exact ⟨_, ((wrap64 (x6_2 + ((rdOf ByteArray.empty l1 x31_2).size : Int)))), (x176000_21), (x176001_21), (x176002_21), (by first | rfl | (simp; done) | (simp [*]; done)), H', ⟨by have := HJ2.out; have := HK2.out; have := HJ21.out; first | omega | exact Nat.le_refl _⟩, ⟨by repeat (first | (with_reducible first | exact HI175.out | apply IsS38.alloc | apply IsS38.drewN | apply IsS38.drew | apply IsS38.set_0 | apply IsS38.set_1 | apply IsS38.set_2) | exact HI175.out)⟩, ⟨by repeat (first | (with_reducible first | exact HB.out | apply below_alloc | apply pw_below_drewN | apply below_drew1 | refine below_set ?_ (IsS38.ge HI175.out)) | exact HB.out)⟩⟩
                        · rw [if_neg c21] at H
                          have c21b0 : decide ((wrap64 (x6_2 + ((rdOf ByteArray.empty l1 x31_2).size : Int))) ≤ a0) = false := decide_eq_false c21
                          clear c21
                          obtain rfl := Option.some.inj H
                          have p176 : 0 ≤ (x31_2 : Int) := of_decide_eq_true (by first | (with_reducible assumption) | assumption)
                          have q176 : x31_2 < (l1.length : Int) := of_decide_eq_true (by first | (with_reducible assumption) | assumption)
                          obtain ⟨ad176, e176, hx176_0⟩ := Kd.at_string HR1.out x31_2 p176 q176
                          cases e176
                          replace hx176_0 := (HB.out.cell (World.block_lt_of_cell? w _ hx176_0)).trans hx176_0
                          replace p176 := eq_true p176
                          replace q176 := eq_true q176
                          go_wp2_with (first | ((with_reducible refine gate_callee (f := 9) rfl ?_); refine goesL_ (some 40) rfl rfl Try.func9 (by kernel_rfl) rfl #[.pointer (some ⟨g175, 0, none⟩), .string (rdOf ByteArray.empty l1 x31_2)] rfl (by (try simp only [List.map_toArray, List.map_cons, List.map_nil]); first | done | rfl | (simp only [List.length_drop, List.length_take]; rfl)) ?_; (with_reducible refine (buffer_Buffer_Put.calls g175 x176000_2 x176001_2 x176002_2 (rdOf ByteArray.empty l1 x31_2) true t178 t179 t180 w _ ?side1 ?side2 A19.out).mono ?_); (case side1 => repeat (first | (with_reducible first | exact HI175.out | apply IsS38.alloc | apply IsS38.drewN | apply IsS38.drew | apply IsS38.set_0 | apply IsS38.set_1 | apply IsS38.set_2) | exact HI175.out)); (case side2 => repeat (first | (with_reducible first | exact HB.out | apply below_alloc | apply pw_below_drewN | apply below_drew1 | refine below_set ?_ (IsS38.ge HI175.out)) | exact HB.out)); rintro e w29 ⟨rfl, hi, hb, hk⟩; refine ⟨_, rfl, ?_⟩; have n0_ := Aside0.mk (hb); have n1_ := Aside0.mk (hi); clear HB; clear HI175; have HB := n0_; have HI175 := n1_; clear n0_ n1_; (try clear hb); (try clear hb2); (try clear hk); (try clear hi)))
                          go_ret
                          exact ⟨by first | rfl | (simp [errW_none, errW_some] <;> rfl) | (simp [*, errW_none, errW_some] <;> rfl), by repeat (first | (with_reducible first | exact HB.out | apply below_alloc | apply pw_below_drewN | apply below_drew1 | refine below_set ?_ (IsS38.ge HI175.out)) | exact HB.out)⟩
                      · replace c20 := Bool.eq_false_iff.mpr c20
                        subst c20
                        have H1 : (if (wrap64 (x6_2 + ((rdOf ByteArray.empty l1 x31_2).size : Int))) ≤ a0 then (some false) else ((buffer_Buffer_Len.f t178 t179 t180).bind fun bt185 => (if bt185.1 = x6_2 then (bywashlaw13_BufferBounds.j3 k2 a0 x6_2 l1 (l1.length : Int) x31_2 (decide (x6_2 > a0)) bt185.2.1 bt185.2.2.1 bt185.2.2.2) else (bywashlaw13_BufferBounds.j3 k2 a0 x6_2 l1 (l1.length : Int) x31_2 true bt185.2.1 bt185.2.2.1 bt185.2.2.2)))) = some r := by rw [if_neg (show ¬ (false = true) by decide)] at H; exact H
                        clear H
                        have H := H1
                        clear H1
                        by_cases c30 : (wrap64 (x6_2 + ((rdOf ByteArray.empty l1 x31_2).size : Int))) ≤ a0
                        · rw [if_pos c30] at H
                          have c30b0 : decide ((wrap64 (x6_2 + ((rdOf ByteArray.empty l1 x31_2).size : Int))) ≤ a0) = true := decide_eq_true c30
                          clear c30
                          obtain rfl := Option.some.inj H
                          have p176 : 0 ≤ (x31_2 : Int) := of_decide_eq_true (by first | (with_reducible assumption) | assumption)
                          have q176 : x31_2 < (l1.length : Int) := of_decide_eq_true (by first | (with_reducible assumption) | assumption)
                          obtain ⟨ad176, e176, hx176_0⟩ := Kd.at_string HR1.out x31_2 p176 q176
                          cases e176
                          replace hx176_0 := (HB.out.cell (World.block_lt_of_cell? w _ hx176_0)).trans hx176_0
                          replace p176 := eq_true p176
                          replace q176 := eq_true q176
                          go_wp2_with (first | ((with_reducible refine gate_callee (f := 9) rfl ?_); refine goesL_ (some 40) rfl rfl Try.func9 (by kernel_rfl) rfl #[.pointer (some ⟨g175, 0, none⟩), .string (rdOf ByteArray.empty l1 x31_2)] rfl (by (try simp only [List.map_toArray, List.map_cons, List.map_nil]); first | done | rfl | (simp only [List.length_drop, List.length_take]; rfl)) ?_; (with_reducible refine (buffer_Buffer_Put.calls g175 x176000_2 x176001_2 x176002_2 (rdOf ByteArray.empty l1 x31_2) false t178 t179 t180 w _ ?side1 ?side2 A19.out).mono ?_); (case side1 => repeat (first | (with_reducible first | exact HI175.out | apply IsS38.alloc | apply IsS38.drewN | apply IsS38.drew | apply IsS38.set_0 | apply IsS38.set_1 | apply IsS38.set_2) | exact HI175.out)); (case side2 => repeat (first | (with_reducible first | exact HB.out | apply below_alloc | apply pw_below_drewN | apply below_drew1 | refine below_set ?_ (IsS38.ge HI175.out)) | exact HB.out)); rintro e w31 ⟨rfl, hi, hb, hk⟩; refine ⟨_, rfl, ?_⟩; have n0_ := Aside0.mk (hb); have n1_ := Aside0.mk (hi); clear HB; clear HI175; have HB := n0_; have HI175 := n1_; clear n0_ n1_; (try clear hb); (try clear hb2); (try clear hk); (try clear hi)))
                          go_ret
                          exact ⟨by first | rfl | (simp [errW_none, errW_some] <;> rfl) | (simp [*, errW_none, errW_some] <;> rfl), by repeat (first | (with_reducible first | exact HB.out | apply below_alloc | apply pw_below_drewN | apply below_drew1 | refine below_set ?_ (IsS38.ge HI175.out)) | exact HB.out)⟩
                        · rw [if_neg c30] at H
                          have c30b0 : decide ((wrap64 (x6_2 + ((rdOf ByteArray.empty l1 x31_2).size : Int))) ≤ a0) = false := decide_eq_false c30
                          clear c30
                          have HC32 := Aside0.mk H
                          clear H
                          have p176 : 0 ≤ (x31_2 : Int) := of_decide_eq_true (by first | (with_reducible assumption) | assumption)
                          have q176 : x31_2 < (l1.length : Int) := of_decide_eq_true (by first | (with_reducible assumption) | assumption)
                          obtain ⟨ad176, e176, hx176_0⟩ := Kd.at_string HR1.out x31_2 p176 q176
                          cases e176
                          replace hx176_0 := (HB.out.cell (World.block_lt_of_cell? w _ hx176_0)).trans hx176_0
                          replace p176 := eq_true p176
                          replace q176 := eq_true q176
                          go_upto_region 16 with (first | ((with_reducible refine gate_callee (f := 9) rfl ?_); refine goesL_ (some 40) rfl rfl Try.func9 (by kernel_rfl) rfl #[.pointer (some ⟨g175, 0, none⟩), .string (rdOf ByteArray.empty l1 x31_2)] rfl (by (try simp only [List.map_toArray, List.map_cons, List.map_nil]); first | done | rfl | (simp only [List.length_drop, List.length_take]; rfl)) ?_; (with_reducible refine (buffer_Buffer_Put.calls g175 x176000_2 x176001_2 x176002_2 (rdOf ByteArray.empty l1 x31_2) false t178 t179 t180 w _ ?side1 ?side2 A19.out).mono ?_); (case side1 => repeat (first | (with_reducible first | exact HI175.out | apply IsS38.alloc | apply IsS38.drewN | apply IsS38.drew | apply IsS38.set_0 | apply IsS38.set_1 | apply IsS38.set_2) | exact HI175.out)); (case side2 => repeat (first | (with_reducible first | exact HB.out | apply below_alloc | apply pw_below_drewN | apply below_drew1 | refine below_set ?_ (IsS38.ge HI175.out)) | exact HB.out)); rintro e w33 ⟨rfl, hi, hb, hk⟩; refine ⟨_, rfl, ?_⟩; have n0_ := Aside0.mk (hb); have n1_ := Aside0.mk (hi); clear HB; clear HI175; have HB := n0_; have HI175 := n1_; clear n0_ n1_; (try clear hb); (try clear hb2); (try clear hk); (try clear hi)))
                          (try simp only [Act.put, List.setIfInBounds_toArray, List.set_cons_zero, List.set_cons_succ])
                          go_cut [66] (fun v66 wc => ∃ (kq : Nat) (x66_31 : Bool) (x176000_31 : ByteArray) (x176001_31 : Int) (x176002_31 : Bool), v66 = .bool x66_31 ∧ Aside0 (bywashlaw13_BufferBounds.j3 kq a0 x6_2 l1 (l1.length : Int) x31_2 x66_31 x176000_31 x176001_31 x176002_31 = some r) ∧ Aside0 (kq ≤ k2) ∧ Aside0 (IsS38 w wc g175 x176000_31 x176001_31 x176002_31) ∧ Aside0 (Below w.heap.size w wc))
                          case first =>
                            have H := HC32.out
                            clear HC32
                            replace H := Option.bind_eq_some_iff.mp H
                            obtain ⟨⟨t185, t186, t187, t188⟩, A340, H⟩ := H
                            replace H : (if t185 = x6_2 then (bywashlaw13_BufferBounds.j3 k2 a0 x6_2 l1 (l1.length : Int) x31_2 (decide (x6_2 > a0)) t186 t187 t188) else (bywashlaw13_BufferBounds.j3 k2 a0 x6_2 l1 (l1.length : Int) x31_2 true t186 t187 t188)) = some r := H
                            have A34 := Aside0.mk A340
                            clear A340
                            by_cases c35 : t185 = x6_2
                            · rw [if_pos c35] at H
                              have c35b0 : (t185 == x6_2) = true := beq_iff_eq.mpr c35
                              have c35b1 : (t185 != x6_2) = false := bne_eq_false_iff_eq.mpr c35
                              clear c35
                              (first | rw [c35b0] | (simp only [i64_w, i32_w]; rw [c35b0]) | skip)
                              have H' := Aside0.mk H
                              clear H
                              go_wp2_with (first | ((with_reducible refine gate_callee (f := 11) rfl ?_); refine goesL_ (some 59) rfl rfl Try.func11 (by kernel_rfl) rfl #[.pointer (some ⟨g175, 0, none⟩)] rfl (by (try simp only [List.map_toArray, List.map_cons, List.map_nil]); first | done | rfl | (simp only [List.length_drop, List.length_take]; rfl)) ?_; (with_reducible refine (buffer_Buffer_Len.calls g175 t178 t179 t180 t185 t186 t187 t188 w _ ?side1 ?side2 A34.out).mono ?_); (case side1 => repeat (first | (with_reducible first | exact HI175.out | apply IsS38.alloc | apply IsS38.drewN | apply IsS38.drew | apply IsS38.set_0 | apply IsS38.set_1 | apply IsS38.set_2) | exact HI175.out)); (case side2 => repeat (first | (with_reducible first | exact HB.out | apply below_alloc | apply pw_below_drewN | apply below_drew1 | refine below_set ?_ (IsS38.ge HI175.out)) | exact HB.out)); rintro e w36 ⟨rfl, hi, hb, hk⟩; refine ⟨_, rfl, ?_⟩; have n0_ := Aside0.mk (hb); have n1_ := Aside0.mk (hi); clear HB; clear HI175; have HB := n0_; have HI175 := n1_; clear n0_ n1_; (try clear hb); (try clear hb2); (try clear hk); (try clear hi)))
                              go_meet
                              case rel => exact ⟨_, (decide (x6_2 > a0)), (t186), (t187), (t188), (by first | rfl | (simp; done) | (simp [*]; done)), H', ⟨by have := HJ2.out; have := HK2.out; first | omega | exact Nat.le_refl _⟩, ⟨by repeat (first | (with_reducible first | exact HI175.out | apply IsS38.alloc | apply IsS38.drewN | apply IsS38.drew | apply IsS38.set_0 | apply IsS38.set_1 | apply IsS38.set_2) | exact HI175.out)⟩, ⟨by repeat (first | (with_reducible first | exact HB.out | apply below_alloc | apply pw_below_drewN | apply below_drew1 | refine below_set ?_ (IsS38.ge HI175.out)) | exact HB.out)⟩⟩
                            · rw [if_neg c35] at H
                              have c35b0 : (t185 == x6_2) = false := beq_eq_false_iff_ne.mpr c35
                              have c35b1 : (t185 != x6_2) = true := bne_iff_ne.mpr c35
                              (first | rw [c35b0] | (simp only [i64_w, i32_w]; rw [c35b0]) | skip)
                              have H' := Aside0.mk H
                              clear H
                              go_wp2_with (first | ((with_reducible refine gate_callee (f := 11) rfl ?_); refine goesL_ (some 59) rfl rfl Try.func11 (by kernel_rfl) rfl #[.pointer (some ⟨g175, 0, none⟩)] rfl (by (try simp only [List.map_toArray, List.map_cons, List.map_nil]); first | done | rfl | (simp only [List.length_drop, List.length_take]; rfl)) ?_; (with_reducible refine (buffer_Buffer_Len.calls g175 t178 t179 t180 t185 t186 t187 t188 w _ ?side1 ?side2 A34.out).mono ?_); (case side1 => repeat (first | (with_reducible first | exact HI175.out | apply IsS38.alloc | apply IsS38.drewN | apply IsS38.drew | apply IsS38.set_0 | apply IsS38.set_1 | apply IsS38.set_2) | exact HI175.out)); (case side2 => repeat (first | (with_reducible first | exact HB.out | apply below_alloc | apply pw_below_drewN | apply below_drew1 | refine below_set ?_ (IsS38.ge HI175.out)) | exact HB.out)); rintro e w37 ⟨rfl, hi, hb, hk⟩; refine ⟨_, rfl, ?_⟩; have n0_ := Aside0.mk (hb); have n1_ := Aside0.mk (hi); clear HB; clear HI175; have HB := n0_; have HI175 := n1_; clear n0_ n1_; (try clear hb); (try clear hb2); (try clear hk); (try clear hi)))
                              go_meet
                              case rel => exact ⟨_, (true), (t186), (t187), (t188), (by first | rfl | (simp; done) | (simp [*]; done)), H', ⟨by have := HJ2.out; have := HK2.out; first | omega | exact Nat.le_refl _⟩, ⟨by repeat (first | (with_reducible first | exact HI175.out | apply IsS38.alloc | apply IsS38.drewN | apply IsS38.drew | apply IsS38.set_0 | apply IsS38.set_1 | apply IsS38.set_2) | exact HI175.out)⟩, ⟨by repeat (first | (with_reducible first | exact HB.out | apply below_alloc | apply pw_below_drewN | apply below_drew1 | refine below_set ?_ (IsS38.ge HI175.out)) | exact HB.out)⟩⟩
                          case rest =>
                            clear HC32
                            try clear c1
                            try clear p1
                            try clear q1
                            try clear hx1
                            try clear c2
                            try clear p2
                            try clear c3
                            try clear c4
                            try clear c4b0
                            try clear c5
                            try clear c5b0
                            try clear c6
                            try clear c6b0
                            try clear c6b1
                            try clear p6
                            try clear c7
                            try clear c8
                            try clear c9
                            try clear c11
                            try clear c14
                            try clear c14b0
                            try clear c16
                            try clear c16b0
                            try clear c17
                            try clear c17b0
                            try clear p17
                            try clear q17
                            try clear hx17
                            try clear c18
                            try clear c18b0
                            try clear c18b1
                            try clear c20
                            try clear c21
                            try clear c21b0
                            try clear c25
                            try clear c25b0
                            try clear c25b1
                            try clear c28
                            try clear c30
                            try clear c30b0
                            try clear c35
                            try clear c35b0
                            try clear c35b1
                            try clear hx176_0
                            try clear p1
                            try clear p17
                            try clear p176
                            try clear p2
                            try clear p6
                            try clear q1
                            try clear q17
                            try clear q176
                            obtain ⟨kq, x66_31, x176000_31, x176001_31, x176002_31, rfl, HA, HJ31, HI175, HB⟩ := hcut
                            cases kq with
                            | zero => exact absurd HA.out (by simp [bywashlaw13_BufferBounds.j3])
                            | succ kj31 =>
                              have H := HA.out
                              clear HA
                              simp only [bywashlaw13_BufferBounds.j3] at H
                              by_cases c38 : x66_31 = true
                              · subst c38
                                have H1 : (some false) = some r := by rw [if_pos rfl] at H; exact H
                                clear H
                                have H := H1
                                clear H1
                                obtain rfl := Option.some.inj H
                                go_wp2
                                go_ret
                                exact ⟨by first | rfl | (simp [errW_none, errW_some] <;> rfl) | (simp [*, errW_none, errW_some] <;> rfl), by repeat (first | (with_reducible first | exact HB.out | apply below_alloc | apply pw_below_drewN | apply below_drew1 | refine below_set ?_ (IsS38.ge HI175.out)) | exact HB.out)⟩
                              · replace c38 := Bool.eq_false_iff.mpr c38
                                subst c38
                                have H1 : (bywashlaw13_BufferBounds.j4 kj31 a0 x6_2 l1 (l1.length : Int) x31_2 x176000_31 x176001_31 x176002_31) = some r := by rw [if_neg (show ¬ (false = true) by decide)] at H; exact H
                                clear H
                                have H := H1
                                clear H1
                                have H' := Aside0.mk H
                                clear H
                                go_wp2
                                go_meet
                                case rel => exact ⟨_, (x6_2), (x176000_31), (x176001_31), (x176002_31), (by first | rfl | (simp; done) | (simp [*]; done)), H', ⟨by have := HJ2.out; have := HK2.out; have := HJ31.out; first | omega | exact Nat.le_refl _⟩, ⟨by repeat (first | (with_reducible first | exact HI175.out | apply IsS38.alloc | apply IsS38.drewN | apply IsS38.drew | apply IsS38.set_0 | apply IsS38.set_1 | apply IsS38.set_2) | exact HI175.out)⟩, ⟨by repeat (first | (with_reducible first | exact HB.out | apply below_alloc | apply pw_below_drewN | apply below_drew1 | refine below_set ?_ (IsS38.ge HI175.out)) | exact HB.out)⟩⟩
                  · rw [if_neg c17] at H
                    exact absurd H (by simp)
                · rw [if_neg c16] at H
                  exact absurd H (by simp)
              case rest =>
                clear HC15
                try clear c1
                try clear p1
                try clear q1
                try clear hx1
                try clear c2
                try clear p2
                try clear c3
                try clear c4
                try clear c4b0
                try clear c5
                try clear c5b0
                try clear c6
                try clear c6b0
                try clear c6b1
                try clear p6
                try clear c7
                try clear c8
                try clear c9
                try clear c11
                try clear c14
                try clear c14b0
                try clear c16
                try clear c16b0
                try clear c17
                try clear c17b0
                try clear p17
                try clear q17
                try clear hx17
                try clear c18
                try clear c18b0
                try clear c18b1
                try clear c20
                try clear c21
                try clear c21b0
                try clear c25
                try clear c25b0
                try clear c25b1
                try clear c28
                try clear c30
                try clear c30b0
                try clear c35
                try clear c35b0
                try clear c35b1
                try clear c38
                try clear hx176_0
                try clear p1
                try clear p17
                try clear p176
                try clear p2
                try clear p6
                try clear q1
                try clear q17
                try clear q176
                obtain ⟨kq, x6_14, x176000_14, x176001_14, x176002_14, rfl, HA, HJ14, HI175, HB⟩ := hcut
                cases kq with
                | zero => exact absurd HA.out (by simp [bywashlaw13_BufferBounds.j4])
                | succ kj14 =>
                  have H := HA.out
                  clear HA
                  simp only [bywashlaw13_BufferBounds.j4] at H
                  have H' := Aside0.mk H
                  clear H
                  go_wp2
                  go_roundg kj14
                  case measure => have := HJ2.out; have := HK2.out; have := HJ14.out; omega
                  case rel => exact ⟨(x6_14), (wrap64 (x31_2 + 1)), (x176000_14), (x176001_14), (x176002_14), (by first | rfl | (simp; done) | (simp [*]; done)), (by first | rfl | (simp; done) | (simp [*]; done)), H', ⟨by have := HJ2.out; have := HK2.out; have := HJ14.out; omega⟩, ⟨by repeat (first | (with_reducible first | exact HI175.out | apply IsS38.alloc | apply IsS38.drewN | apply IsS38.drew | apply IsS38.set_0 | apply IsS38.set_1 | apply IsS38.set_2) | exact HI175.out)⟩, ⟨by repeat (first | (with_reducible first | exact HB.out | apply below_alloc | apply pw_below_drewN | apply below_drew1 | refine below_set ?_ (IsS38.ge HI175.out)) | exact HB.out)⟩⟩
            · rw [if_neg c14] at H
              have c14b0 : decide (x31_2 < (l1.length : Int)) = false := decide_eq_false c14
              clear c14
              have HC39 := Aside0.mk H
              clear H
              go_upto_region 19 with (fail)
              go_cut [4] (fun v4 wc => ∃ (kq : Nat) (x4_38 : Bool), v4 = .bool x4_38 ∧ Aside0 (bywashlaw13_BufferBounds.j5 kq x4_38 = some r) ∧ Aside0 (kq ≤ k2) ∧ Aside0 (Below w.heap.size w wc))
              case first =>
                have H := HC39.out
                clear HC39
                replace H := Option.bind_eq_some_iff.mp H
                obtain ⟨⟨t189, t190, t191, t192⟩, A400, H⟩ := H
                replace H : (if t189 = x6_2 then ((buffer_Buffer_Len.f t190 t191 t192).bind fun bt193 => (if bt193.1 = 0 then ((buffer_Buffer_Done.f bt193.2.1 bt193.2.2.1 bt193.2.2.2).bind fun bt197 => (if bt197.1 = true then ((buffer_Buffer_Put.f bt197.2.1 bt197.2.2.1 bt197.2.2.2 (⟨#[]⟩ : ByteArray)).bind fun bt201 => (bywashlaw13_BufferBounds.j5 k2 (!bt201.1))) else (bywashlaw13_BufferBounds.j5 k2 false))) else (bywashlaw13_BufferBounds.j5 k2 false))) else (bywashlaw13_BufferBounds.j5 k2 false)) = some r := H
                have A40 := Aside0.mk A400
                clear A400
                by_cases c41 : t189 = x6_2
                · rw [if_pos c41] at H
                  have c41b0 : (t189 == x6_2) = true := beq_iff_eq.mpr c41
                  have c41b1 : (t189 != x6_2) = false := bne_eq_false_iff_eq.mpr c41
                  clear c41
                  (first | rw [c41b0] | (simp only [i64_w, i32_w]; rw [c41b0]) | skip)
                  replace H := Option.bind_eq_some_iff.mp H
                  obtain ⟨⟨t193, t194, t195, t196⟩, A420, H⟩ := H
                  replace H : (if t193 = 0 then ((buffer_Buffer_Done.f t194 t195 t196).bind fun bt197 => (if bt197.1 = true then ((buffer_Buffer_Put.f bt197.2.1 bt197.2.2.1 bt197.2.2.2 (⟨#[]⟩ : ByteArray)).bind fun bt201 => (bywashlaw13_BufferBounds.j5 k2 (!bt201.1))) else (bywashlaw13_BufferBounds.j5 k2 false))) else (bywashlaw13_BufferBounds.j5 k2 false)) = some r := H
                  have A42 := Aside0.mk A420
                  clear A420
                  by_cases c43 : t193 = 0
                  · rw [if_pos c43] at H
                    have c43b0 : (t193 == 0) = true := beq_iff_eq.mpr c43
                    have c43b1 : (t193 != 0) = false := bne_eq_false_iff_eq.mpr c43
                    clear c43
                    replace H := Option.bind_eq_some_iff.mp H
                    obtain ⟨⟨t197, t198, t199, t200⟩, A440, H⟩ := H
                    replace H : (if t197 = true then ((buffer_Buffer_Put.f t198 t199 t200 (⟨#[]⟩ : ByteArray)).bind fun bt201 => (bywashlaw13_BufferBounds.j5 k2 (!bt201.1))) else (bywashlaw13_BufferBounds.j5 k2 false)) = some r := H
                    have A44 := Aside0.mk A440
                    clear A440
                    by_cases c45 : t197 = true
                    · subst c45
                      have H1 : ((buffer_Buffer_Put.f t198 t199 t200 (⟨#[]⟩ : ByteArray)).bind fun bt201 => (bywashlaw13_BufferBounds.j5 k2 (!bt201.1))) = some r := by rw [if_pos rfl] at H; exact H
                      clear H
                      have H := H1
                      clear H1
                      replace H := Option.bind_eq_some_iff.mp H
                      obtain ⟨⟨t201, t202, t203, t204⟩, A460, H⟩ := H
                      replace H : (bywashlaw13_BufferBounds.j5 k2 (!t201)) = some r := H
                      have A46 := Aside0.mk A460
                      clear A460
                      have H' := Aside0.mk H
                      clear H
                      go_wp2_with (first | ((with_reducible refine gate_callee (f := 13) rfl ?_); refine goesL_ (some 69) rfl rfl Try.func13 (by kernel_rfl) rfl #[.pointer (some ⟨g175, 0, none⟩)] rfl (by (try simp only [List.map_toArray, List.map_cons, List.map_nil]); first | done | rfl | (simp only [List.length_drop, List.length_take]; rfl)) ?_; (with_reducible refine (buffer_Buffer_Drop.calls g175 x176000_2 x176001_2 x176002_2 t189 t190 t191 t192 w _ ?side1 ?side2 A40.out).mono ?_); (case side1 => repeat (first | (with_reducible first | exact HI175.out | apply IsS38.alloc | apply IsS38.drewN | apply IsS38.drew | apply IsS38.set_0 | apply IsS38.set_1 | apply IsS38.set_2) | exact HI175.out)); (case side2 => repeat (first | (with_reducible first | exact HB.out | apply below_alloc | apply pw_below_drewN | apply below_drew1 | refine below_set ?_ (IsS38.ge HI175.out)) | exact HB.out)); rintro e w47 ⟨rfl, hi, hb, hk⟩; refine ⟨_, rfl, ?_⟩; have n0_ := Aside0.mk (hb); have n1_ := Aside0.mk (hi); clear HB; clear HI175; have HB := n0_; have HI175 := n1_; clear n0_ n1_; (try clear hb); (try clear hb2); (try clear hk); (try clear hi)) | (go_at_call 11; (with_reducible refine (buffer_Buffer_Len.calls g175 t190 t191 t192 t193 t194 t195 t196 w _ ?side1 ?side2 A42.out).mono ?_); (case side1 => repeat (first | (with_reducible first | exact HI175.out | apply IsS38.alloc | apply IsS38.drewN | apply IsS38.drew | apply IsS38.set_0 | apply IsS38.set_1 | apply IsS38.set_2) | exact HI175.out)); (case side2 => repeat (first | (with_reducible first | exact HB.out | apply below_alloc | apply pw_below_drewN | apply below_drew1 | refine below_set ?_ (IsS38.ge HI175.out)) | exact HB.out)); rintro e w48 ⟨rfl, hi, hb, hk⟩; have n0_ := Aside0.mk (hb); have n1_ := Aside0.mk (hi); clear HB; clear HI175; have HB := n0_; have HI175 := n1_; clear n0_ n1_; (try clear hb); (try clear hb2); (try clear hk); (try clear hi)) | (go_at_call 15; (with_reducible refine (buffer_Buffer_Done.calls g175 t194 t195 t196 true t198 t199 t200 w _ ?side1 ?side2 A44.out).mono ?_); (case side1 => repeat (first | (with_reducible first | exact HI175.out | apply IsS38.alloc | apply IsS38.drewN | apply IsS38.drew | apply IsS38.set_0 | apply IsS38.set_1 | apply IsS38.set_2) | exact HI175.out)); (case side2 => repeat (first | (with_reducible first | exact HB.out | apply below_alloc | apply pw_below_drewN | apply below_drew1 | refine below_set ?_ (IsS38.ge HI175.out)) | exact HB.out)); rintro e w49 ⟨rfl, hi, hb, hk⟩; have n0_ := Aside0.mk (hb); have n1_ := Aside0.mk (hi); clear HB; clear HI175; have HB := n0_; have HI175 := n1_; clear n0_ n1_; (try clear hb); (try clear hb2); (try clear hk); (try clear hi)) | (go_at_call 9; (with_reducible refine (buffer_Buffer_Put.calls g175 t198 t199 t200 (⟨#[]⟩ : ByteArray) t201 t202 t203 t204 w _ ?side1 ?side2 A46.out).mono ?_); (case side1 => repeat (first | (with_reducible first | exact HI175.out | apply IsS38.alloc | apply IsS38.drewN | apply IsS38.drew | apply IsS38.set_0 | apply IsS38.set_1 | apply IsS38.set_2) | exact HI175.out)); (case side2 => repeat (first | (with_reducible first | exact HB.out | apply below_alloc | apply pw_below_drewN | apply below_drew1 | refine below_set ?_ (IsS38.ge HI175.out)) | exact HB.out)); rintro e w50 ⟨rfl, hi, hb, hk⟩; have n0_ := Aside0.mk (hb); have n1_ := Aside0.mk (hi); clear HB; clear HI175; have HB := n0_; have HI175 := n1_; clear n0_ n1_; (try clear hb); (try clear hb2); (try clear hk); (try clear hi)))
                      go_meet
                      case rel => exact ⟨_, (!t201), (by first | rfl | (simp; done) | (simp [*]; done)), H', ⟨by have := HJ2.out; have := HK2.out; first | omega | exact Nat.le_refl _⟩, ⟨by repeat (first | (with_reducible first | exact HB.out | apply below_alloc | apply pw_below_drewN | apply below_drew1 | refine below_set ?_ (IsS38.ge HI175.out)) | exact HB.out)⟩⟩
                    · replace c45 := Bool.eq_false_iff.mpr c45
                      subst c45
                      have H1 : (bywashlaw13_BufferBounds.j5 k2 false) = some r := by rw [if_neg (show ¬ (false = true) by decide)] at H; exact H
                      clear H
                      have H := H1
                      clear H1
                      have H' := Aside0.mk H
                      clear H
                      go_wp2_with (first | ((with_reducible refine gate_callee (f := 13) rfl ?_); refine goesL_ (some 69) rfl rfl Try.func13 (by kernel_rfl) rfl #[.pointer (some ⟨g175, 0, none⟩)] rfl (by (try simp only [List.map_toArray, List.map_cons, List.map_nil]); first | done | rfl | (simp only [List.length_drop, List.length_take]; rfl)) ?_; (with_reducible refine (buffer_Buffer_Drop.calls g175 x176000_2 x176001_2 x176002_2 t189 t190 t191 t192 w _ ?side1 ?side2 A40.out).mono ?_); (case side1 => repeat (first | (with_reducible first | exact HI175.out | apply IsS38.alloc | apply IsS38.drewN | apply IsS38.drew | apply IsS38.set_0 | apply IsS38.set_1 | apply IsS38.set_2) | exact HI175.out)); (case side2 => repeat (first | (with_reducible first | exact HB.out | apply below_alloc | apply pw_below_drewN | apply below_drew1 | refine below_set ?_ (IsS38.ge HI175.out)) | exact HB.out)); rintro e w51 ⟨rfl, hi, hb, hk⟩; refine ⟨_, rfl, ?_⟩; have n0_ := Aside0.mk (hb); have n1_ := Aside0.mk (hi); clear HB; clear HI175; have HB := n0_; have HI175 := n1_; clear n0_ n1_; (try clear hb); (try clear hb2); (try clear hk); (try clear hi)) | (go_at_call 11; (with_reducible refine (buffer_Buffer_Len.calls g175 t190 t191 t192 t193 t194 t195 t196 w _ ?side1 ?side2 A42.out).mono ?_); (case side1 => repeat (first | (with_reducible first | exact HI175.out | apply IsS38.alloc | apply IsS38.drewN | apply IsS38.drew | apply IsS38.set_0 | apply IsS38.set_1 | apply IsS38.set_2) | exact HI175.out)); (case side2 => repeat (first | (with_reducible first | exact HB.out | apply below_alloc | apply pw_below_drewN | apply below_drew1 | refine below_set ?_ (IsS38.ge HI175.out)) | exact HB.out)); rintro e w52 ⟨rfl, hi, hb, hk⟩; have n0_ := Aside0.mk (hb); have n1_ := Aside0.mk (hi); clear HB; clear HI175; have HB := n0_; have HI175 := n1_; clear n0_ n1_; (try clear hb); (try clear hb2); (try clear hk); (try clear hi)) | (go_at_call 15; (with_reducible refine (buffer_Buffer_Done.calls g175 t194 t195 t196 false t198 t199 t200 w _ ?side1 ?side2 A44.out).mono ?_); (case side1 => repeat (first | (with_reducible first | exact HI175.out | apply IsS38.alloc | apply IsS38.drewN | apply IsS38.drew | apply IsS38.set_0 | apply IsS38.set_1 | apply IsS38.set_2) | exact HI175.out)); (case side2 => repeat (first | (with_reducible first | exact HB.out | apply below_alloc | apply pw_below_drewN | apply below_drew1 | refine below_set ?_ (IsS38.ge HI175.out)) | exact HB.out)); rintro e w53 ⟨rfl, hi, hb, hk⟩; have n0_ := Aside0.mk (hb); have n1_ := Aside0.mk (hi); clear HB; clear HI175; have HB := n0_; have HI175 := n1_; clear n0_ n1_; (try clear hb); (try clear hb2); (try clear hk); (try clear hi)))
                      go_meet
                      case rel => exact ⟨_, (false), (by first | rfl | (simp; done) | (simp [*]; done)), H', ⟨by have := HJ2.out; have := HK2.out; first | omega | exact Nat.le_refl _⟩, ⟨by repeat (first | (with_reducible first | exact HB.out | apply below_alloc | apply pw_below_drewN | apply below_drew1 | refine below_set ?_ (IsS38.ge HI175.out)) | exact HB.out)⟩⟩
                  · rw [if_neg c43] at H
                    have c43b0 : (t193 == 0) = false := beq_eq_false_iff_ne.mpr c43
                    have c43b1 : (t193 != 0) = true := bne_iff_ne.mpr c43
                    have H' := Aside0.mk H
                    clear H
                    go_wp2_with (first | ((with_reducible refine gate_callee (f := 13) rfl ?_); refine goesL_ (some 69) rfl rfl Try.func13 (by kernel_rfl) rfl #[.pointer (some ⟨g175, 0, none⟩)] rfl (by (try simp only [List.map_toArray, List.map_cons, List.map_nil]); first | done | rfl | (simp only [List.length_drop, List.length_take]; rfl)) ?_; (with_reducible refine (buffer_Buffer_Drop.calls g175 x176000_2 x176001_2 x176002_2 t189 t190 t191 t192 w _ ?side1 ?side2 A40.out).mono ?_); (case side1 => repeat (first | (with_reducible first | exact HI175.out | apply IsS38.alloc | apply IsS38.drewN | apply IsS38.drew | apply IsS38.set_0 | apply IsS38.set_1 | apply IsS38.set_2) | exact HI175.out)); (case side2 => repeat (first | (with_reducible first | exact HB.out | apply below_alloc | apply pw_below_drewN | apply below_drew1 | refine below_set ?_ (IsS38.ge HI175.out)) | exact HB.out)); rintro e w54 ⟨rfl, hi, hb, hk⟩; refine ⟨_, rfl, ?_⟩; have n0_ := Aside0.mk (hb); have n1_ := Aside0.mk (hi); clear HB; clear HI175; have HB := n0_; have HI175 := n1_; clear n0_ n1_; (try clear hb); (try clear hb2); (try clear hk); (try clear hi)) | (go_at_call 11; (with_reducible refine (buffer_Buffer_Len.calls g175 t190 t191 t192 t193 t194 t195 t196 w _ ?side1 ?side2 A42.out).mono ?_); (case side1 => repeat (first | (with_reducible first | exact HI175.out | apply IsS38.alloc | apply IsS38.drewN | apply IsS38.drew | apply IsS38.set_0 | apply IsS38.set_1 | apply IsS38.set_2) | exact HI175.out)); (case side2 => repeat (first | (with_reducible first | exact HB.out | apply below_alloc | apply pw_below_drewN | apply below_drew1 | refine below_set ?_ (IsS38.ge HI175.out)) | exact HB.out)); rintro e w55 ⟨rfl, hi, hb, hk⟩; have n0_ := Aside0.mk (hb); have n1_ := Aside0.mk (hi); clear HB; clear HI175; have HB := n0_; have HI175 := n1_; clear n0_ n1_; (try clear hb); (try clear hb2); (try clear hk); (try clear hi)))
                    go_meet
                    case rel => exact ⟨_, (false), (by first | rfl | (simp; done) | (simp [*]; done)), H', ⟨by have := HJ2.out; have := HK2.out; first | omega | exact Nat.le_refl _⟩, ⟨by repeat (first | (with_reducible first | exact HB.out | apply below_alloc | apply pw_below_drewN | apply below_drew1 | refine below_set ?_ (IsS38.ge HI175.out)) | exact HB.out)⟩⟩
                · rw [if_neg c41] at H
                  have c41b0 : (t189 == x6_2) = false := beq_eq_false_iff_ne.mpr c41
                  have c41b1 : (t189 != x6_2) = true := bne_iff_ne.mpr c41
                  (first | rw [c41b0] | (simp only [i64_w, i32_w]; rw [c41b0]) | skip)
                  have H' := Aside0.mk H
                  clear H
                  go_wp2_with (first | ((with_reducible refine gate_callee (f := 13) rfl ?_); refine goesL_ (some 69) rfl rfl Try.func13 (by kernel_rfl) rfl #[.pointer (some ⟨g175, 0, none⟩)] rfl (by (try simp only [List.map_toArray, List.map_cons, List.map_nil]); first | done | rfl | (simp only [List.length_drop, List.length_take]; rfl)) ?_; (with_reducible refine (buffer_Buffer_Drop.calls g175 x176000_2 x176001_2 x176002_2 t189 t190 t191 t192 w _ ?side1 ?side2 A40.out).mono ?_); (case side1 => repeat (first | (with_reducible first | exact HI175.out | apply IsS38.alloc | apply IsS38.drewN | apply IsS38.drew | apply IsS38.set_0 | apply IsS38.set_1 | apply IsS38.set_2) | exact HI175.out)); (case side2 => repeat (first | (with_reducible first | exact HB.out | apply below_alloc | apply pw_below_drewN | apply below_drew1 | refine below_set ?_ (IsS38.ge HI175.out)) | exact HB.out)); rintro e w56 ⟨rfl, hi, hb, hk⟩; refine ⟨_, rfl, ?_⟩; have n0_ := Aside0.mk (hb); have n1_ := Aside0.mk (hi); clear HB; clear HI175; have HB := n0_; have HI175 := n1_; clear n0_ n1_; (try clear hb); (try clear hb2); (try clear hk); (try clear hi)))
                  go_meet
                  case rel => exact ⟨_, (false), (by first | rfl | (simp; done) | (simp [*]; done)), H', ⟨by have := HJ2.out; have := HK2.out; first | omega | exact Nat.le_refl _⟩, ⟨by repeat (first | (with_reducible first | exact HB.out | apply below_alloc | apply pw_below_drewN | apply below_drew1 | refine below_set ?_ (IsS38.ge HI175.out)) | exact HB.out)⟩⟩
              case rest =>
                clear HC39
                try clear c1
                try clear p1
                try clear q1
                try clear hx1
                try clear c2
                try clear p2
                try clear c3
                try clear c4
                try clear c4b0
                try clear c5
                try clear c5b0
                try clear c6
                try clear c6b0
                try clear c6b1
                try clear p6
                try clear c7
                try clear c8
                try clear c9
                try clear c11
                try clear c13
                try clear c14
                try clear c14b0
                try clear c16
                try clear c16b0
                try clear c17
                try clear c17b0
                try clear p17
                try clear q17
                try clear hx17
                try clear c18
                try clear c18b0
                try clear c18b1
                try clear c20
                try clear c21
                try clear c21b0
                try clear c25
                try clear c25b0
                try clear c25b1
                try clear c28
                try clear c30
                try clear c30b0
                try clear c35
                try clear c35b0
                try clear c35b1
                try clear c38
                try clear c41
                try clear c41b0
                try clear c41b1
                try clear c43
                try clear c43b0
                try clear c43b1
                try clear c45
                try clear hx176_0
                try clear p1
                try clear p17
                try clear p176
                try clear p2
                try clear p6
                try clear q1
                try clear q17
                try clear q176
                obtain ⟨kq, x4_38, rfl, HA, HJ38, HB⟩ := hcut
                cases kq with
                | zero => exact absurd HA.out (by simp [bywashlaw13_BufferBounds.j5])
                | succ kj38 =>
                  have H := HA.out
                  clear HA
                  simp only [bywashlaw13_BufferBounds.j5] at H
                  obtain rfl := Option.some.inj H
                  go_wp2
                  go_ret
                  exact ⟨by first | rfl | (simp [errW_none, errW_some] <;> rfl) | (simp [*, errW_none, errW_some] <;> rfl), by repeat (first | (with_reducible first | exact HB.out | apply below_alloc | apply pw_below_drewN | apply below_drew1) | exact HB.out)⟩

end Go.Proofs.Ytofjbbbajnohaaa.PBufferBounds
