-- Written by a program of this session (the kit's printer, turned): the functions that the law reaches.
import Derived.Test.YtofjbbbajnohaaaPBufferPlaysx0
import Derived.Test.YtofjbbbajnohaaaPBufferPlaysx1
import Derived.Test.YtofjbbbajnohaaaPBufferPlaysx2
namespace Go.Proofs.Ytofjbbbajnohaaa.PBufferPlays
open Go.RowKit Go.Proofs.YtofjbbbajnohaaaW.PrintWords Go.Proofs.YtofjbbbajnohaaaW.PrintLast Go.Proofs.YtofjbbbajnohaaaW.PrintMore
attribute [local go_sem] max2_int min2_int max_two min_two max_three min_three max_four min_four   -- for this text's walks alone
set_option linter.unusedVariables false
set_option linter.unusedSimpArgs false

/-! ### bywashlaw13_BufferPlays: function 4 -/
mutual
def bywashlaw13_BufferPlays.j0 : Nat → Int → List (S33) → Bool → Option (Bool)
  | 0, _, _, _ => none
  | k + 1, x0, x1, x19 => if x19 = true then ((bywashlaw13_alive.f).bind fun t171 => (some t171)) else ((buffer_New.f x0).bind fun bt172 => (if x0 < 1 then (some false) else (bywashlaw13_BufferPlays.l0 k x0 (⟨#[]⟩ : ByteArray) false x1 (x1.length : Int) 0 bt172.1 bt172.2.1 bt172.2.2)))
def bywashlaw13_BufferPlays.l0 : Nat → Int → ByteArray → Bool → List (S33) → Int → Int → ByteArray → Int → Bool → Option (Bool)
  | 0, _, _, _, _, _, _, _, _, _ => none
  | k + 1, x0, x7, x8, x60, x61, x62, x176000, x176001, x176002 => if x62 < x61 then (if 0 ≤ x62 then (if x62 < (x60.length : Int) then (if (((rd_T33 x60 x62).f2).size : Int) > 300 then (some true) else (if ((rd_T33 x60 x62).f0) = 1 then (if x8 = true then (bywashlaw13_BufferPlays.j2 k x0 x7 x8 false x60 x61 x62 x176000 x176001 x176002 ((rd_T33 x60 x62).f0) ((rd_T33 x60 x62).f1) ((rd_T33 x60 x62).f2)) else (if (((rd_T33 x60 x62).f2).size : Int) ≤ x0 then (bywashlaw13_BufferPlays.j2 k x0 x7 x8 (decide ((x7.size : Int) ≤ (wrap64 (x0 - (((rd_T33 x60 x62).f2).size : Int))))) x60 x61 x62 x176000 x176001 x176002 ((rd_T33 x60 x62).f0) ((rd_T33 x60 x62).f1) ((rd_T33 x60 x62).f2)) else (bywashlaw13_BufferPlays.j2 k x0 x7 x8 false x60 x61 x62 x176000 x176001 x176002 ((rd_T33 x60 x62).f0) ((rd_T33 x60 x62).f1) ((rd_T33 x60 x62).f2)))) else (if ((rd_T33 x60 x62).f0) = 2 then ((buffer_Buffer_Get.f x176000 x176001 x176002 ((rd_T33 x60 x62).f1)).bind fun bt182 => (if 0 ≤ (mn (mx ((rd_T33 x60 x62).f1) 0) (x7.size : Int)) then (if (mn (mx ((rd_T33 x60 x62).f1) 0) (x7.size : Int)) ≤ (x7.size : Int) then (if bt182.1.toList = (x7.extract 0 ((mn (mx ((rd_T33 x60 x62).f1) 0) (x7.size : Int)) : Int).toNat).toList then (bywashlaw13_BufferPlays.j3 k x0 (x7.extract ((mn (mx ((rd_T33 x60 x62).f1) 0) (x7.size : Int)) : Int).toNat x7.size) x8 x60 x61 x62 bt182.2.1 bt182.2.2.1 bt182.2.2.2) else (some false)) else (none)) else (none))) else (if ((rd_T33 x60 x62).f0) = 3 then ((buffer_Buffer_End.f x176000 x176001 x176002).bind fun bt186 => (if bt186.1 = true then (if x8 = true then (some false) else (bywashlaw13_BufferPlays.j3 k x0 x7 true x60 x61 x62 bt186.2.1 bt186.2.2.1 bt186.2.2.2)) else (if x8 = true then (bywashlaw13_BufferPlays.j3 k x0 x7 true x60 x61 x62 bt186.2.1 bt186.2.2.1 bt186.2.2.2) else (some false)))) else (if ((rd_T33 x60 x62).f0) = 4 then ((buffer_Buffer_Drop.f x176000 x176001 x176002).bind fun bt190 => (if bt190.1 = (x7.size : Int) then (bywashlaw13_BufferPlays.j3 k x0 (⟨#[]⟩ : ByteArray) true x60 x61 x62 bt190.2.1 bt190.2.2.1 bt190.2.2.2) else (some false))) else (bywashlaw13_BufferPlays.j3 k x0 x7 x8 x60 x61 x62 x176000 x176001 x176002)))))) else (none)) else (none)) else (some true)
def bywashlaw13_BufferPlays.j3 : Nat → Int → ByteArray → Bool → List (S33) → Int → Int → ByteArray → Int → Bool → Option (Bool)
  | 0, _, _, _, _, _, _, _, _, _ => none
  | k + 1, x0, x7, x8, x60, x61, x62, x176000, x176001, x176002 => (buffer_Buffer_Len.f x176000 x176001 x176002).bind fun bt194 => (if bt194.1 = (x7.size : Int) then ((buffer_Buffer_Ended.f bt194.2.1 bt194.2.2.1 bt194.2.2.2).bind fun bt198 => (if bt198.1 = true then (if x8 = true then ((buffer_Buffer_Done.f bt198.2.1 bt198.2.2.1 bt198.2.2.2).bind fun bt202 => (if bt202.1 = true then (if x7.toList = ([] : List UInt8) then (bywashlaw13_BufferPlays.l0 k x0 x7 x8 x60 x61 (wrap64 (x62 + 1)) bt202.2.1 bt202.2.2.1 bt202.2.2.2) else (some false)) else (if x7.toList = ([] : List UInt8) then (some false) else (bywashlaw13_BufferPlays.l0 k x0 x7 x8 x60 x61 (wrap64 (x62 + 1)) bt202.2.1 bt202.2.2.1 bt202.2.2.2)))) else (some false)) else (if x8 = true then (some false) else ((buffer_Buffer_Done.f bt198.2.1 bt198.2.2.1 bt198.2.2.2).bind fun bt206 => (if bt206.1 = true then (some false) else (bywashlaw13_BufferPlays.l0 k x0 x7 x8 x60 x61 (wrap64 (x62 + 1)) bt206.2.1 bt206.2.2.1 bt206.2.2.2)))))) else (some false))
def bywashlaw13_BufferPlays.j2 : Nat → Int → ByteArray → Bool → Bool → List (S33) → Int → Int → ByteArray → Int → Bool → Int → Int → ByteArray → Option (Bool)
  | 0, _, _, _, _, _, _, _, _, _, _, _, _, _ => none
  | k + 1, x0, x7, x8, x11, x60, x61, x62, x176000, x176001, x176002, x178000, x178001, x178002 => (buffer_Buffer_Put.f x176000 x176001 x176002 x178002).bind fun bt178 => (if bt178.1 = true then (if x11 = true then (if x7.size + x178002.size ≤ 9223372036854775807 then (bywashlaw13_BufferPlays.j3 k x0 (x7 ++ x178002) x8 x60 x61 x62 bt178.2.1 bt178.2.2.1 bt178.2.2.2) else (none)) else (some false)) else (if x11 = true then (some false) else (bywashlaw13_BufferPlays.j3 k x0 x7 x8 x60 x61 x62 bt178.2.1 bt178.2.2.1 bt178.2.2.2)))
end
def bywashlaw13_BufferPlays.f (k : Nat) (a0 : Int) (l1 : List (S33)) : Option (Bool) := if (l1.length : Int) > 100 then (bywashlaw13_BufferPlays.j0 k a0 l1 true) else ((bywashlaw13_alive.f).bind fun t170 => (bywashlaw13_BufferPlays.j0 k a0 l1 (!t170)))
theorem bywashlaw13_BufferPlays.mono_l : ∀ k, (∀ y0 y1 y2, LeO (bywashlaw13_BufferPlays.j0 k y0 y1 y2) (bywashlaw13_BufferPlays.j0 (k + 1) y0 y1 y2)) ∧ (∀ y0 y1 y2 y3 y4 y5 y6 y7 y8, LeO (bywashlaw13_BufferPlays.l0 k y0 y1 y2 y3 y4 y5 y6 y7 y8) (bywashlaw13_BufferPlays.l0 (k + 1) y0 y1 y2 y3 y4 y5 y6 y7 y8)) ∧ (∀ y0 y1 y2 y3 y4 y5 y6 y7 y8, LeO (bywashlaw13_BufferPlays.j3 k y0 y1 y2 y3 y4 y5 y6 y7 y8) (bywashlaw13_BufferPlays.j3 (k + 1) y0 y1 y2 y3 y4 y5 y6 y7 y8)) ∧ (∀ y0 y1 y2 y3 y4 y5 y6 y7 y8 y9 y10 y11 y12, LeO (bywashlaw13_BufferPlays.j2 k y0 y1 y2 y3 y4 y5 y6 y7 y8 y9 y10 y11 y12) (bywashlaw13_BufferPlays.j2 (k + 1) y0 y1 y2 y3 y4 y5 y6 y7 y8 y9 y10 y11 y12))
  | 0 => ⟨fun _ _ _ r h => by simp [bywashlaw13_BufferPlays.j0] at h, fun _ _ _ _ _ _ _ _ _ r h => by simp [bywashlaw13_BufferPlays.l0] at h, fun _ _ _ _ _ _ _ _ _ r h => by simp [bywashlaw13_BufferPlays.j3] at h, fun _ _ _ _ _ _ _ _ _ _ _ _ _ r h => by simp [bywashlaw13_BufferPlays.j2] at h⟩
  | k + 1 => by
    obtain ⟨ih0, ih1, ih2, ih3⟩ := bywashlaw13_BufferPlays.mono_l k
    refine ⟨?_, ?_, ?_, ?_⟩
    · intro y0 y1 y2
      unfold bywashlaw13_BufferPlays.j0
      repeat' first
      | (with_reducible exact ih0 _ _ _)
      | (with_reducible exact ih1 _ _ _ _ _ _ _ _ _)
      | (with_reducible exact ih2 _ _ _ _ _ _ _ _ _)
      | (with_reducible exact ih3 _ _ _ _ _ _ _ _ _ _ _ _ _)
      | (with_reducible exact LeO.refl _)
      | (with_reducible exact LeO.none _)
      | (with_reducible refine LeO.ite ?_ ?_)
      | (with_reducible refine LeO.bind ?_ (fun _ => ?_))
      | exact ih0 _ _ _
      | exact ih1 _ _ _ _ _ _ _ _ _
      | exact ih2 _ _ _ _ _ _ _ _ _
      | exact ih3 _ _ _ _ _ _ _ _ _ _ _ _ _
      | exact LeO.none _
      | refine LeO.ite ?_ ?_
      | refine LeO.bind ?_ (fun _ => ?_)
    · intro y0 y1 y2 y3 y4 y5 y6 y7 y8
      unfold bywashlaw13_BufferPlays.l0
      repeat' first
      | (with_reducible exact ih0 _ _ _)
      | (with_reducible exact ih1 _ _ _ _ _ _ _ _ _)
      | (with_reducible exact ih2 _ _ _ _ _ _ _ _ _)
      | (with_reducible exact ih3 _ _ _ _ _ _ _ _ _ _ _ _ _)
      | (with_reducible exact LeO.refl _)
      | (with_reducible exact LeO.none _)
      | (with_reducible refine LeO.ite ?_ ?_)
      | (with_reducible refine LeO.bind ?_ (fun _ => ?_))
      | exact ih0 _ _ _
      | exact ih1 _ _ _ _ _ _ _ _ _
      | exact ih2 _ _ _ _ _ _ _ _ _
      | exact ih3 _ _ _ _ _ _ _ _ _ _ _ _ _
      | exact LeO.none _
      | refine LeO.ite ?_ ?_
      | refine LeO.bind ?_ (fun _ => ?_)
    · intro y0 y1 y2 y3 y4 y5 y6 y7 y8
      unfold bywashlaw13_BufferPlays.j3
      repeat' first
      | (with_reducible exact ih0 _ _ _)
      | (with_reducible exact ih1 _ _ _ _ _ _ _ _ _)
      | (with_reducible exact ih2 _ _ _ _ _ _ _ _ _)
      | (with_reducible exact ih3 _ _ _ _ _ _ _ _ _ _ _ _ _)
      | (with_reducible exact LeO.refl _)
      | (with_reducible exact LeO.none _)
      | (with_reducible refine LeO.ite ?_ ?_)
      | (with_reducible refine LeO.bind ?_ (fun _ => ?_))
      | exact ih0 _ _ _
      | exact ih1 _ _ _ _ _ _ _ _ _
      | exact ih2 _ _ _ _ _ _ _ _ _
      | exact ih3 _ _ _ _ _ _ _ _ _ _ _ _ _
      | exact LeO.none _
      | refine LeO.ite ?_ ?_
      | refine LeO.bind ?_ (fun _ => ?_)
    · intro y0 y1 y2 y3 y4 y5 y6 y7 y8 y9 y10 y11 y12
      unfold bywashlaw13_BufferPlays.j2
      repeat' first
      | (with_reducible exact ih0 _ _ _)
      | (with_reducible exact ih1 _ _ _ _ _ _ _ _ _)
      | (with_reducible exact ih2 _ _ _ _ _ _ _ _ _)
      | (with_reducible exact ih3 _ _ _ _ _ _ _ _ _ _ _ _ _)
      | (with_reducible exact LeO.refl _)
      | (with_reducible exact LeO.none _)
      | (with_reducible refine LeO.ite ?_ ?_)
      | (with_reducible refine LeO.bind ?_ (fun _ => ?_))
      | exact ih0 _ _ _
      | exact ih1 _ _ _ _ _ _ _ _ _
      | exact ih2 _ _ _ _ _ _ _ _ _
      | exact ih3 _ _ _ _ _ _ _ _ _ _ _ _ _
      | exact LeO.none _
      | refine LeO.ite ?_ ?_
      | refine LeO.bind ?_ (fun _ => ?_)
theorem bywashlaw13_BufferPlays.mono : ∀ a0 a1 k, LeO (bywashlaw13_BufferPlays.f k a0 a1) (bywashlaw13_BufferPlays.f (k + 1) a0 a1) := by
  intro a0 a1 k
  obtain ⟨ih0, ih1, ih2, ih3⟩ := bywashlaw13_BufferPlays.mono_l k
  unfold bywashlaw13_BufferPlays.f
  repeat' first
      | (with_reducible exact ih0 _ _ _)
      | (with_reducible exact ih1 _ _ _ _ _ _ _ _ _)
      | (with_reducible exact ih2 _ _ _ _ _ _ _ _ _)
      | (with_reducible exact ih3 _ _ _ _ _ _ _ _ _ _ _ _ _)
      | (with_reducible exact LeO.refl _)
      | (with_reducible exact LeO.none _)
      | (with_reducible refine LeO.ite ?_ ?_)
      | (with_reducible refine LeO.bind ?_ (fun _ => ?_))
      | exact ih0 _ _ _
      | exact ih1 _ _ _ _ _ _ _ _ _
      | exact ih2 _ _ _ _ _ _ _ _ _
      | exact ih3 _ _ _ _ _ _ _ _ _ _ _ _ _
      | exact LeO.none _
      | refine LeO.ite ?_ ?_
      | refine LeO.bind ?_ (fun _ => ?_)
def bywashlaw13_BufferPlays.T24 : Bool × List (List Nat × List Nat) := (true, [([], []), ([], []), ([1], [1]), ([0, 2], [0, 2]), ([], []), ([], []), ([4, 5], [4, 5]), ([3, 6], [3, 6])])
def bywashlaw13_BufferPlays.B24 : List Nat := [0, 0, 2, 7, 0, 0, 48, 127]
theorem bywashlaw13_BufferPlays.tab24 : rtab .any (opsOf Try.f4 24) = bywashlaw13_BufferPlays.T24 := by kernel_rfl
theorem bywashlaw13_BufferPlays.bits24 : waitsOk bywashlaw13_BufferPlays.T24.2 bywashlaw13_BufferPlays.B24 = true := by kernel_rfl
set_option maxHeartbeats 8000000 in
set_option maxRecDepth 100000 in
theorem bywashlaw13_BufferPlays.calls (k : Nat) (a0 : Int) (A1 : Option Addr) (c1 : Nat) (l1 : List (S33)) (r : Bool) (w : World) (hr1 : Kd.C k33 w A1 l1.length l1) (hc1 : l1.length ≤ c1) (h : bywashlaw13_BufferPlays.f k a0 l1 = some r) :
    Calls Try.prog 4 #[.int .i64 a0, .slice A1 l1.length c1] w fun e w' => e = .returned (.bool r) ∧ Below w.heap.size w w' := by
  have hu33 := Try.underlying33
  have HR1 := Aside0.mk hr1
  have HC1 := Aside0.mk hc1
  clear hr1 hc1
  have HB := Aside0.mk (Below.refl w.heap.size w)
  have H : (if (l1.length : Int) > 100 then (bywashlaw13_BufferPlays.j0 k a0 l1 true) else ((bywashlaw13_alive.f).bind fun t170 => (bywashlaw13_BufferPlays.j0 k a0 l1 (!t170)))) = some r := h
  clear h
  have HC3 := Aside0.mk H
  clear H
  go_enter Try.func4, Try.ntmps4
  go_upto_region 1 with (fail)
  go_cut [19] (fun v19 wc => ∃ (kq : Nat) (x19_2 : Bool), v19 = .bool x19_2 ∧ Aside0 (bywashlaw13_BufferPlays.j0 kq a0 l1 x19_2 = some r) ∧ Aside0 (kq ≤ k) ∧ Aside0 (Below w.heap.size w wc))
  case first =>
    have H := HC3.out
    clear HC3
    by_cases c4 : (l1.length : Int) > 100
    · rw [if_pos c4] at H
      have c4b0 : decide (100 < (l1.length : Int)) = true := decide_eq_true c4
      have c4b1 : decide (100 < l1.length) = true := decide_eq_true (by omega)
      clear c4
      (first | rw [c4b0] | (simp only [i64_w, i32_w]; rw [c4b0]) | skip)
      have H' := Aside0.mk H
      clear H
      go_wp2
      go_meet
      case rel => exact ⟨_, (true), (by first | rfl | (simp; done) | (simp [*]; done)), H', ⟨by first | omega | exact Nat.le_refl _⟩, ⟨by repeat (first | (with_reducible first | exact HB.out | apply below_alloc | apply pw_below_drewN | apply below_drew1) | exact HB.out)⟩⟩
    · rw [if_neg c4] at H
      have c4b0 : decide (100 < (l1.length : Int)) = false := decide_eq_false c4
      have c4b1 : decide (100 < l1.length) = false := decide_eq_false (by omega)
      clear c4
      (first | rw [c4b0] | (simp only [i64_w, i32_w]; rw [c4b0]) | skip)
      replace H := Option.bind_eq_some_iff.mp H
      obtain ⟨t170, A50, H⟩ := H
      replace H : (bywashlaw13_BufferPlays.j0 k a0 l1 (!t170)) = some r := H
      have A5 := Aside0.mk A50
      clear A50
      have H' := Aside0.mk H
      clear H
      go_wp2_with (first | (go_at_call 7; (with_reducible refine (bywashlaw13_alive.calls  t170 _ A5.out).mono ?_); rintro e w6 ⟨rfl, hb⟩; have n0_ := Aside0.mk (below_step (by repeat (first | (with_reducible first | exact HB.out | apply below_alloc | apply pw_below_drewN | apply below_drew1) | exact HB.out)) hb); clear HB; have HB := n0_; clear n0_; (try clear hb); (try clear hb2); (try clear hk); (try clear hi)))
      go_meet
      case rel => exact ⟨_, (!t170), (by first | rfl | (simp; done) | (simp [*]; done)), H', ⟨by first | omega | exact Nat.le_refl _⟩, ⟨by repeat (first | (with_reducible first | exact HB.out | apply below_alloc | apply pw_below_drewN | apply below_drew1) | exact HB.out)⟩⟩
  case rest =>
    clear HC3
    try clear c1
    try clear p2
    try clear c4
    try clear c4b0
    try clear c4b1
    obtain ⟨kq, x19_2, rfl, HA, HJ2, HB⟩ := hcut
    cases kq with
    | zero => exact absurd HA.out (by simp [bywashlaw13_BufferPlays.j0])
    | succ kj2 =>
      have H := HA.out
      clear HA
      simp only [bywashlaw13_BufferPlays.j0] at H
      by_cases c7 : x19_2 = true
      · subst c7
        have H1 : ((bywashlaw13_alive.f).bind fun t171 => (some t171)) = some r := by rw [if_pos rfl] at H; exact H
        clear H
        have H := H1
        clear H1
        replace H := Option.bind_eq_some_iff.mp H
        obtain ⟨t171, A80, H⟩ := H
        replace H : (some t171) = some r := H
        have A8 := Aside0.mk A80
        clear A80
        obtain rfl := Option.some.inj H
        go_wp2_with (first | ((with_reducible refine gate_callee (f := 7) rfl ?_); refine goesL_ (some 20) rfl rfl Try.func7 (by kernel_rfl) rfl #[] rfl (by (try simp only [List.map_toArray, List.map_cons, List.map_nil]); first | done | rfl | (simp only [List.length_drop, List.length_take]; rfl)) ?_; (with_reducible refine (bywashlaw13_alive.calls  t171 _ A8.out).mono ?_); rintro e w9 ⟨rfl, hb⟩; refine ⟨_, rfl, ?_⟩; have n0_ := Aside0.mk (below_step (by repeat (first | (with_reducible first | exact HB.out | apply below_alloc | apply pw_below_drewN | apply below_drew1) | exact HB.out)) hb); clear HB; have HB := n0_; clear n0_; (try clear hb); (try clear hb2); (try clear hk); (try clear hi)))
        go_ret
        exact ⟨by first | rfl | (simp [errW_none, errW_some] <;> rfl) | (simp [*, errW_none, errW_some] <;> rfl), by repeat (first | (with_reducible first | exact HB.out | apply below_alloc | apply pw_below_drewN | apply below_drew1) | exact HB.out)⟩
      · replace c7 := Bool.eq_false_iff.mpr c7
        subst c7
        have H1 : ((buffer_New.f a0).bind fun bt172 => (if a0 < 1 then (some false) else (bywashlaw13_BufferPlays.l0 kj2 a0 (⟨#[]⟩ : ByteArray) false l1 (l1.length : Int) 0 bt172.1 bt172.2.1 bt172.2.2))) = some r := by rw [if_neg (show ¬ (false = true) by decide)] at H; exact H
        clear H
        have H := H1
        clear H1
        replace H := Option.bind_eq_some_iff.mp H
        obtain ⟨⟨t172, t173, t174⟩, A100, H⟩ := H
        replace H : (if a0 < 1 then (some false) else (bywashlaw13_BufferPlays.l0 kj2 a0 (⟨#[]⟩ : ByteArray) false l1 (l1.length : Int) 0 t172 t173 t174)) = some r := H
        have A10 := Aside0.mk A100
        clear A100
        by_cases c11 : a0 < 1
        · rw [if_pos c11] at H
          have c11b0 : decide (a0 < 1) = true := decide_eq_true c11
          clear c11
          obtain rfl := Option.some.inj H
          go_wp2_with (first | ((with_reducible refine gate_callee (f := 8) rfl ?_); refine goesL_ (some 22) rfl rfl Try.func8 (by kernel_rfl) rfl #[.int .i64 a0] rfl (by (try simp only [List.map_toArray, List.map_cons, List.map_nil]); first | done | rfl | (simp only [List.length_drop, List.length_take]; rfl)) ?_; (with_reducible refine (buffer_New.calls a0 t172 t173 t174 w _ ?side1 A10.out).mono ?_); (case side1 => repeat (first | (with_reducible first | exact HB.out | apply below_alloc | apply pw_below_drewN | apply below_drew1) | exact HB.out)); rintro e w12 ⟨g175, rfl, hi, hb, hb2⟩; refine ⟨_, rfl, ?_⟩; have n0_ := Aside0.mk (hb); have n1_ := Aside0.mk (hi); clear HB; have HB := n0_; have HI175 := n1_; clear n0_ n1_; (try clear hb); (try clear hb2); (try clear hk); (try clear hi)))
          go_ret
          exact ⟨by first | rfl | (simp [errW_none, errW_some] <;> rfl) | (simp [*, errW_none, errW_some] <;> rfl), by repeat (first | (with_reducible first | exact HB.out | apply below_alloc | apply pw_below_drewN | apply below_drew1 | refine below_set ?_ (IsS38.ge HI175.out)) | exact HB.out)⟩
        · rw [if_neg c11] at H
          have c11b0 : decide (a0 < 1) = false := decide_eq_false c11
          clear c11
          have H' := Aside0.mk H
          clear H
          go_wp2_with (first | ((with_reducible refine gate_callee (f := 8) rfl ?_); refine goesL_ (some 22) rfl rfl Try.func8 (by kernel_rfl) rfl #[.int .i64 a0] rfl (by (try simp only [List.map_toArray, List.map_cons, List.map_nil]); first | done | rfl | (simp only [List.length_drop, List.length_take]; rfl)) ?_; (with_reducible refine (buffer_New.calls a0 t172 t173 t174 w _ ?side1 A10.out).mono ?_); (case side1 => repeat (first | (with_reducible first | exact HB.out | apply below_alloc | apply pw_below_drewN | apply below_drew1) | exact HB.out)); rintro e w13 ⟨g175, rfl, hi, hb, hb2⟩; refine ⟨_, rfl, ?_⟩; have n0_ := Aside0.mk (hb); have n1_ := Aside0.mk (hi); clear HB; have HB := n0_; have HI175 := n1_; clear n0_ n1_; (try clear hb); (try clear hb2); (try clear hk); (try clear hi)))
          go_loopg [7, 8, 62] kj2 (fun kq v7 v8 v62 w' => ∃ (x7_2 : ByteArray) (x8_2 : Bool) (x62_2 : Int) (x176000_2 : ByteArray) (x176001_2 : Int) (x176002_2 : Bool), v7 = .string x7_2 ∧ v8 = .bool x8_2 ∧ v62 = .int .i64 x62_2 ∧ Aside0 (bywashlaw13_BufferPlays.l0 kq a0 x7_2 x8_2 l1 (l1.length : Int) x62_2 x176000_2 x176001_2 x176002_2 = some r) ∧ Aside0 (kq ≤ kj2) ∧ Aside0 (IsS38 w w' g175 x176000_2 x176001_2 x176002_2) ∧ Aside0 (Below w.heap.size w w'))
          case atStart => exact ⟨((⟨#[]⟩ : ByteArray)), (false), (0), (t172), (t173), (t174), (by first | rfl | (simp; done) | (simp [*]; done)), (by first | rfl | (simp; done) | (simp [*]; done)), (by first | rfl | (simp; done) | (simp [*]; done)), H', ⟨Nat.le_refl _⟩, ⟨by repeat (first | (with_reducible first | exact HI175.out | apply IsS38.alloc | apply IsS38.drewN | apply IsS38.drew | apply IsS38.set_0 | apply IsS38.set_1 | apply IsS38.set_2) | exact HI175.out)⟩, ⟨by repeat (first | (with_reducible first | exact HB.out | apply below_alloc | apply pw_below_drewN | apply below_drew1 | refine below_set ?_ (IsS38.ge HI175.out)) | exact HB.out)⟩⟩
          case round =>
            clear H'
            try clear c1
            try clear p2
            try clear c4
            try clear c4b0
            try clear c4b1
            try clear c7
            try clear c8
            try clear c11
            try clear c11b0
            try clear p2
            obtain ⟨x7_2, x8_2, x62_2, x176000_2, x176001_2, x176002_2, rfl, rfl, rfl, HA, HK2, HI175, HB⟩ := hrel
            cases gk with
            | zero => exact absurd HA.out (by simp [bywashlaw13_BufferPlays.l0])
            | succ k2 =>
              have H := HA.out
              clear HA
              simp only [bywashlaw13_BufferPlays.l0] at H
              by_cases c14 : x62_2 < (l1.length : Int)
              · rw [if_pos c14] at H
                have c14b0 : decide (x62_2 < (l1.length : Int)) = true := decide_eq_true c14
                clear c14
                by_cases c15 : 0 ≤ x62_2
                · rw [if_pos c15] at H
                  have c15b0 : decide (0 ≤ x62_2) = true := decide_eq_true c15
                  clear c15
                  by_cases c16 : x62_2 < (l1.length : Int)
                  · rw [if_pos c16] at H
                    have c16b0 : decide (x62_2 < (l1.length : Int)) = true := decide_eq_true c16
                    clear c16
                    by_cases c17 : (((rd_T33 l1 x62_2).f2).size : Int) > 300
                    · rw [if_pos c17] at H
                      have c17b0 : decide (300 < (((rd_T33 l1 x62_2).f2).size : Int)) = true := decide_eq_true c17
                      have c17b1 : decide (300 < ((rd_T33 l1 x62_2).f2).size) = true := decide_eq_true (by omega)
                      clear c17
                      obtain rfl := Option.some.inj H
                      have p176 : 0 ≤ (x62_2 : Int) := of_decide_eq_true (by first | (with_reducible assumption) | assumption)
                      have q176 : x62_2 < (l1.length : Int) := of_decide_eq_true (by first | (with_reducible assumption) | assumption)
                      obtain ⟨ad176, e176, hx176_0, hx176_1, hx176_2⟩ := at_T33 HR1.out x62_2 p176 q176
                      cases e176
                      replace hx176_0 := (HB.out.cell (World.block_lt_of_cell? w _ hx176_0)).trans hx176_0
                      replace hx176_1 := (HB.out.cell (World.block_lt_of_cell? w _ hx176_1)).trans hx176_1
                      replace hx176_2 := (HB.out.cell (World.block_lt_of_cell? w _ hx176_2)).trans hx176_2
                      replace p176 := eq_true p176
                      replace q176 := eq_true q176
                      go_wp2_with (first | ((with_reducible refine gate_dst (N := 10) rfl ?_); (try (refine gate_guard (by rfl) ?_; dsimp only)); refine box_event ?hg (N := 10) ?hd (cs := #[.int .i64 0, .int .i64 0, .string (⟨#[]⟩ : ByteArray)]) (t := 33) ?hr ?_; (case hd => rfl); (case hg => rfl); (case hr => first | (go_simp; done) | (go_simp; rfl)); intro gb177 hg w18 hbox hb; have n0_ := Aside0.mk (IsS38.below (by repeat (first | (with_reducible first | exact HI175.out | apply IsS38.alloc | apply IsS38.drewN | apply IsS38.drew | apply IsS38.set_0 | apply IsS38.set_1 | apply IsS38.set_2) | exact HI175.out)) hb); have n1_ := Aside0.mk (below_step (by repeat (first | (with_reducible first | exact HB.out | apply below_alloc | apply pw_below_drewN | apply below_drew1 | refine below_set ?_ (IsS38.ge HI175.out)) | exact HB.out)) hb); have n2_ := Aside0.mk (hbox); have n3_ := Aside0.mk ((by rw [hg]; exact (below_size (by repeat (first | (with_reducible first | exact HB.out | apply below_alloc | apply pw_below_drewN | apply below_drew1 | refine below_set ?_ (IsS38.ge HI175.out)) | exact HB.out))) : w.heap.size ≤ gb177)); have n4_ := Aside0.mk ((by rw [hg]; exact (below_size (by repeat (first | (with_reducible first | exact HB.out | apply below_alloc | apply pw_below_drewN | apply below_drew1 | refine below_set ?_ (IsS38.ge HI175.out)) | exact HB.out))) : w.heap.size ≤ gb177)); have n5_ := Aside0.mk ((by rw [hg]; exact Nat.ne_of_lt (IsS38.lt (show IsS38 w _ g175 x176000_2 x176001_2 x176002_2 from by repeat (first | (with_reducible first | exact HI175.out | apply IsS38.alloc | apply IsS38.drewN | apply IsS38.drew | apply IsS38.set_0 | apply IsS38.set_1 | apply IsS38.set_2) | exact HI175.out))) : g175 ≠ gb177)); have n6_ := Aside0.mk ((by rw [hg]; exact Nat.ne_of_gt (IsS38.lt (show IsS38 w _ g175 x176000_2 x176001_2 x176002_2 from by repeat (first | (with_reducible first | exact HI175.out | apply IsS38.alloc | apply IsS38.drewN | apply IsS38.drew | apply IsS38.set_0 | apply IsS38.set_1 | apply IsS38.set_2) | exact HI175.out))) : gb177 ≠ g175)); clear HI175; clear HB; have HI175 := n0_; have HB := n1_; have BK177 := n2_; have GW177 := n3_; have GE177 := n4_; have NB175_177 := n5_; have NB177_175 := n6_; clear n0_ n1_ n2_ n3_ n4_ n5_ n6_; clear hb hbox hg; have hnb19 := NB177_175.out; have hnc19 := NB175_177.out; have hcz20_0 : w18.cell? ⟨gb177, 0, none⟩ = some (.int .i64 0) := (blk_cell BK177.out 0).trans rfl; have hcz20_1 : w18.cell? ⟨gb177, 1, none⟩ = some (.int .i64 0) := (blk_cell BK177.out 1).trans rfl; have hcz20_2 : w18.cell? ⟨gb177, 2, none⟩ = some (.string (⟨#[]⟩ : ByteArray)) := (blk_cell BK177.out 2).trans rfl; have hfz20_0 := blk_frozen BK177.out 0; have hfz20_1 := blk_frozen BK177.out 1; have hfz20_2 := blk_frozen BK177.out 2))
                      go_ret
                      exact ⟨by first | rfl | (simp [errW_none, errW_some] <;> rfl) | (simp [*, errW_none, errW_some] <;> rfl), by repeat (first | (with_reducible first | exact HB.out | apply below_alloc | apply pw_below_drewN | apply below_drew1 | refine below_set ?_ (IsS38.ge HI175.out) | refine below_set ?_ GE177.out) | exact HB.out)⟩
                    · rw [if_neg c17] at H
                      have c17b0 : decide (300 < (((rd_T33 l1 x62_2).f2).size : Int)) = false := decide_eq_false c17
                      have c17b1 : decide (300 < ((rd_T33 l1 x62_2).f2).size) = false := decide_eq_false (by omega)
                      clear c17
                      have HC21 := Aside0.mk H
                      clear H
                      have p176 : 0 ≤ (x62_2 : Int) := of_decide_eq_true (by first | (with_reducible assumption) | assumption)
                      have q176 : x62_2 < (l1.length : Int) := of_decide_eq_true (by first | (with_reducible assumption) | assumption)
                      obtain ⟨ad176, e176, hx176_0, hx176_1, hx176_2⟩ := at_T33 HR1.out x62_2 p176 q176
                      cases e176
                      replace hx176_0 := (HB.out.cell (World.block_lt_of_cell? w _ hx176_0)).trans hx176_0
                      replace hx176_1 := (HB.out.cell (World.block_lt_of_cell? w _ hx176_1)).trans hx176_1
                      replace hx176_2 := (HB.out.cell (World.block_lt_of_cell? w _ hx176_2)).trans hx176_2
                      replace p176 := eq_true p176
                      replace q176 := eq_true q176
                      go_upto_block 2 with (first | ((with_reducible refine gate_dst (N := 10) rfl ?_); (try (refine gate_guard (by rfl) ?_; dsimp only)); refine box_event ?hg (N := 10) ?hd (cs := #[.int .i64 0, .int .i64 0, .string (⟨#[]⟩ : ByteArray)]) (t := 33) ?hr ?_; (case hd => rfl); (case hg => rfl); (case hr => first | (go_simp; done) | (go_simp; rfl)); intro gb177 hg w22 hbox hb; have n0_ := Aside0.mk (IsS38.below (by repeat (first | (with_reducible first | exact HI175.out | apply IsS38.alloc | apply IsS38.drewN | apply IsS38.drew | apply IsS38.set_0 | apply IsS38.set_1 | apply IsS38.set_2) | exact HI175.out)) hb); have n1_ := Aside0.mk (below_step (by repeat (first | (with_reducible first | exact HB.out | apply below_alloc | apply pw_below_drewN | apply below_drew1 | refine below_set ?_ (IsS38.ge HI175.out)) | exact HB.out)) hb); have n2_ := Aside0.mk (hbox); have n3_ := Aside0.mk ((by rw [hg]; exact (below_size (by repeat (first | (with_reducible first | exact HB.out | apply below_alloc | apply pw_below_drewN | apply below_drew1 | refine below_set ?_ (IsS38.ge HI175.out)) | exact HB.out))) : w.heap.size ≤ gb177)); have n4_ := Aside0.mk ((by rw [hg]; exact (below_size (by repeat (first | (with_reducible first | exact HB.out | apply below_alloc | apply pw_below_drewN | apply below_drew1 | refine below_set ?_ (IsS38.ge HI175.out)) | exact HB.out))) : w.heap.size ≤ gb177)); have n5_ := Aside0.mk ((by rw [hg]; exact Nat.ne_of_lt (IsS38.lt (show IsS38 w _ g175 x176000_2 x176001_2 x176002_2 from by repeat (first | (with_reducible first | exact HI175.out | apply IsS38.alloc | apply IsS38.drewN | apply IsS38.drew | apply IsS38.set_0 | apply IsS38.set_1 | apply IsS38.set_2) | exact HI175.out))) : g175 ≠ gb177)); have n6_ := Aside0.mk ((by rw [hg]; exact Nat.ne_of_gt (IsS38.lt (show IsS38 w _ g175 x176000_2 x176001_2 x176002_2 from by repeat (first | (with_reducible first | exact HI175.out | apply IsS38.alloc | apply IsS38.drewN | apply IsS38.drew | apply IsS38.set_0 | apply IsS38.set_1 | apply IsS38.set_2) | exact HI175.out))) : gb177 ≠ g175)); clear HI175; clear HB; have HI175 := n0_; have HB := n1_; have BK177 := n2_; have GW177 := n3_; have GE177 := n4_; have NB175_177 := n5_; have NB177_175 := n6_; clear n0_ n1_ n2_ n3_ n4_ n5_ n6_; clear hb hbox hg; have hnb23 := NB177_175.out; have hnc23 := NB175_177.out; have hcz24_0 : w22.cell? ⟨gb177, 0, none⟩ = some (.int .i64 0) := (blk_cell BK177.out 0).trans rfl; have hcz24_1 : w22.cell? ⟨gb177, 1, none⟩ = some (.int .i64 0) := (blk_cell BK177.out 1).trans rfl; have hcz24_2 : w22.cell? ⟨gb177, 2, none⟩ = some (.string (⟨#[]⟩ : ByteArray)) := (blk_cell BK177.out 2).trans rfl; have hfz24_0 := blk_frozen BK177.out 0; have hfz24_1 := blk_frozen BK177.out 1; have hfz24_2 := blk_frozen BK177.out 2))
                      (try simp only [Act.put, List.setIfInBounds_toArray, List.set_cons_zero, List.set_cons_succ])
                      go_cut [7, 8] (fun v7 v8 wc => ∃ (kq : Nat) (x7_20 : ByteArray) (x8_20 : Bool) (x176000_20 : ByteArray) (x176001_20 : Int) (x176002_20 : Bool), v7 = .string x7_20 ∧ v8 = .bool x8_20 ∧ Aside0 (bywashlaw13_BufferPlays.j3 kq a0 x7_20 x8_20 l1 (l1.length : Int) x62_2 x176000_20 x176001_20 x176002_20 = some r) ∧ Aside0 (kq ≤ k2) ∧ Aside0 (wc.heap[gb177]? = some (.cells #[.int .i64 ((rd_T33 l1 x62_2).f0), .int .i64 ((rd_T33 l1 x62_2).f1), .string ((rd_T33 l1 x62_2).f2)] 33 (0, 0))) ∧ Aside0 (IsS38 w wc g175 x176000_20 x176001_20 x176002_20) ∧ Aside0 (Below w.heap.size w wc))
                      case first =>
                        have H := HC21.out
                        clear HC21
                        by_cases c25 : ((rd_T33 l1 x62_2).f0) = 1
                        · rw [if_pos c25] at H
                          have c25b0 : (((rd_T33 l1 x62_2).f0) == 1) = true := beq_iff_eq.mpr c25
                          have c25b1 : (((rd_T33 l1 x62_2).f0) != 1) = false := bne_eq_false_iff_eq.mpr c25
                          clear c25
                          (first | rw [c25b0] | (simp only [i64_w, i32_w]; rw [c25b0]) | skip)
                          have HC26 := Aside0.mk H
                          clear H
                          go_upto_region 17 with (fail)
                          go_cut [11] (fun v11 wc => ∃ (kq : Nat) (x11_25 : Bool), v11 = .bool x11_25 ∧ Aside0 (bywashlaw13_BufferPlays.j2 kq a0 x7_2 x8_2 x11_25 l1 (l1.length : Int) x62_2 x176000_2 x176001_2 x176002_2 ((rd_T33 l1 x62_2).f0) ((rd_T33 l1 x62_2).f1) ((rd_T33 l1 x62_2).f2) = some r) ∧ Aside0 (kq ≤ k2) ∧ Aside0 (wc.heap[gb177]? = some (.cells #[.int .i64 ((rd_T33 l1 x62_2).f0), .int .i64 ((rd_T33 l1 x62_2).f1), .string ((rd_T33 l1 x62_2).f2)] 33 (0, 0))) ∧ Aside0 (IsS38 w wc g175 x176000_2 x176001_2 x176002_2) ∧ Aside0 (Below w.heap.size w wc))
                          case first =>
                            have H := HC26.out
                            clear HC26
                            by_cases c27 : x8_2 = true
                            · subst c27
                              have H1 : (bywashlaw13_BufferPlays.j2 k2 a0 x7_2 true false l1 (l1.length : Int) x62_2 x176000_2 x176001_2 x176002_2 ((rd_T33 l1 x62_2).f0) ((rd_T33 l1 x62_2).f1) ((rd_T33 l1 x62_2).f2)) = some r := by rw [if_pos rfl] at H; exact H
                              clear H
                              have H := H1
                              clear H1
                              have H' := Aside0.mk H
                              clear H
                              go_wp2
                              go_meet
                              case rel => exact ⟨_, (false), (by first | rfl | (simp; done) | (simp [*]; done)), H', ⟨by have := HJ2.out; have := HK2.out; first | omega | exact Nat.le_refl _⟩, ⟨by (with_reducible repeat (first | refine blk_drewN ?_ _ | refine blk_drew ?_ | refine blk_alloc ?_ _)); refine blk_put (cs := #[.int .i64 ((rd_T33 l1 x62_2).f0), .int .i64 ((rd_T33 l1 x62_2).f1), .string (⟨#[]⟩ : ByteArray)]) ?_ 2 _ rfl; (with_reducible repeat (first | refine blk_drewN ?_ _ | refine blk_drew ?_ | refine blk_alloc ?_ _)); refine blk_put (cs := #[.int .i64 ((rd_T33 l1 x62_2).f0), .int .i64 0, .string (⟨#[]⟩ : ByteArray)]) ?_ 1 _ rfl; (with_reducible repeat (first | refine blk_drewN ?_ _ | refine blk_drew ?_ | refine blk_alloc ?_ _)); refine blk_put (cs := #[.int .i64 0, .int .i64 0, .string (⟨#[]⟩ : ByteArray)]) ?_ 0 _ rfl; (with_reducible repeat (first | refine blk_drewN ?_ _ | refine blk_drew ?_ | refine blk_alloc ?_ _)); exact BK177.out⟩, ⟨by repeat (first | (with_reducible first | exact HI175.out | apply IsS38.alloc | apply IsS38.drewN | apply IsS38.drew | apply IsS38.set_0 | apply IsS38.set_1 | apply IsS38.set_2 | refine IsS38.far ?_ NB175_177.out _) | exact HI175.out)⟩, ⟨by repeat (first | (with_reducible first | exact HB.out | apply below_alloc | apply pw_below_drewN | apply below_drew1 | refine below_set ?_ (IsS38.ge HI175.out) | refine below_set ?_ GE177.out) | exact HB.out)⟩⟩
                            · replace c27 := Bool.eq_false_iff.mpr c27
                              subst c27
                              have H1 : (if (((rd_T33 l1 x62_2).f2).size : Int) ≤ a0 then (bywashlaw13_BufferPlays.j2 k2 a0 x7_2 false (decide ((x7_2.size : Int) ≤ (wrap64 (a0 - (((rd_T33 l1 x62_2).f2).size : Int))))) l1 (l1.length : Int) x62_2 x176000_2 x176001_2 x176002_2 ((rd_T33 l1 x62_2).f0) ((rd_T33 l1 x62_2).f1) ((rd_T33 l1 x62_2).f2)) else (bywashlaw13_BufferPlays.j2 k2 a0 x7_2 false false l1 (l1.length : Int) x62_2 x176000_2 x176001_2 x176002_2 ((rd_T33 l1 x62_2).f0) ((rd_T33 l1 x62_2).f1) ((rd_T33 l1 x62_2).f2))) = some r := by rw [if_neg (show ¬ (false = true) by decide)] at H; exact H
                              clear H
                              have H := H1
                              clear H1
                              by_cases c28 : (((rd_T33 l1 x62_2).f2).size : Int) ≤ a0
                              · rw [if_pos c28] at H
                                have c28b0 : decide ((((rd_T33 l1 x62_2).f2).size : Int) ≤ a0) = true := decide_eq_true c28
                                clear c28
                                (first | rw [c28b0] | (simp only [i64_w, i32_w]; rw [c28b0]) | skip)
                                have H' := Aside0.mk H
                                clear H
                                have hnb29 := NB177_175.out
                                have hnc29 := NB175_177.out
                                have hcz30_0 : w22.cell? ⟨gb177, 0, none⟩ = some (.int .i64 0) := (blk_cell BK177.out 0).trans rfl
                                have hcz30_1 : w22.cell? ⟨gb177, 1, none⟩ = some (.int .i64 0) := (blk_cell BK177.out 1).trans rfl
                                have hcz30_2 : w22.cell? ⟨gb177, 2, none⟩ = some (.string (⟨#[]⟩ : ByteArray)) := (blk_cell BK177.out 2).trans rfl
                                have hfz30_0 := blk_frozen BK177.out 0
                                have hfz30_1 := blk_frozen BK177.out 1
                                have hfz30_2 := blk_frozen BK177.out 2
                                go_wp2
                                go_meet
                                case rel => exact ⟨_, (decide ((x7_2.size : Int) ≤ (wrap64 (a0 - (((rd_T33 l1 x62_2).f2).size : Int))))), (by first | rfl | (simp; done) | (simp [*]; done)), H', ⟨by have := HJ2.out; have := HK2.out; first | omega | exact Nat.le_refl _⟩, ⟨by (with_reducible repeat (first | refine blk_drewN ?_ _ | refine blk_drew ?_ | refine blk_alloc ?_ _)); refine blk_put (cs := #[.int .i64 ((rd_T33 l1 x62_2).f0), .int .i64 ((rd_T33 l1 x62_2).f1), .string (⟨#[]⟩ : ByteArray)]) ?_ 2 _ rfl; (with_reducible repeat (first | refine blk_drewN ?_ _ | refine blk_drew ?_ | refine blk_alloc ?_ _)); refine blk_put (cs := #[.int .i64 ((rd_T33 l1 x62_2).f0), .int .i64 0, .string (⟨#[]⟩ : ByteArray)]) ?_ 1 _ rfl; (with_reducible repeat (first | refine blk_drewN ?_ _ | refine blk_drew ?_ | refine blk_alloc ?_ _)); refine blk_put (cs := #[.int .i64 0, .int .i64 0, .string (⟨#[]⟩ : ByteArray)]) ?_ 0 _ rfl; (with_reducible repeat (first | refine blk_drewN ?_ _ | refine blk_drew ?_ | refine blk_alloc ?_ _)); exact BK177.out⟩, ⟨by repeat (first | (with_reducible first | exact HI175.out | apply IsS38.alloc | apply IsS38.drewN | apply IsS38.drew | apply IsS38.set_0 | apply IsS38.set_1 | apply IsS38.set_2 | refine IsS38.far ?_ NB175_177.out _) | exact HI175.out)⟩, ⟨by repeat (first | (with_reducible first | exact HB.out | apply below_alloc | apply pw_below_drewN | apply below_drew1 | refine below_set ?_ (IsS38.ge HI175.out) | refine below_set ?_ GE177.out) | exact HB.out)⟩⟩
                              · rw [if_neg c28] at H
                                have c28b0 : decide ((((rd_T33 l1 x62_2).f2).size : Int) ≤ a0) = false := decide_eq_false c28
                                clear c28
                                (first | rw [c28b0] | (simp only [i64_w, i32_w]; rw [c28b0]) | skip)
                                have H' := Aside0.mk H
                                clear H
                                have hnb31 := NB177_175.out
                                have hnc31 := NB175_177.out
                                have hcz32_0 : w22.cell? ⟨gb177, 0, none⟩ = some (.int .i64 0) := (blk_cell BK177.out 0).trans rfl
                                have hcz32_1 : w22.cell? ⟨gb177, 1, none⟩ = some (.int .i64 0) := (blk_cell BK177.out 1).trans rfl
                                have hcz32_2 : w22.cell? ⟨gb177, 2, none⟩ = some (.string (⟨#[]⟩ : ByteArray)) := (blk_cell BK177.out 2).trans rfl
                                have hfz32_0 := blk_frozen BK177.out 0
                                have hfz32_1 := blk_frozen BK177.out 1
                                have hfz32_2 := blk_frozen BK177.out 2
                                go_wp2
                                go_meet
                                case rel => exact ⟨_, (false), (by first | rfl | (simp; done) | (simp [*]; done)), H', ⟨by have := HJ2.out; have := HK2.out; first | omega | exact Nat.le_refl _⟩, ⟨by (with_reducible repeat (first | refine blk_drewN ?_ _ | refine blk_drew ?_ | refine blk_alloc ?_ _)); refine blk_put (cs := #[.int .i64 ((rd_T33 l1 x62_2).f0), .int .i64 ((rd_T33 l1 x62_2).f1), .string (⟨#[]⟩ : ByteArray)]) ?_ 2 _ rfl; (with_reducible repeat (first | refine blk_drewN ?_ _ | refine blk_drew ?_ | refine blk_alloc ?_ _)); refine blk_put (cs := #[.int .i64 ((rd_T33 l1 x62_2).f0), .int .i64 0, .string (⟨#[]⟩ : ByteArray)]) ?_ 1 _ rfl; (with_reducible repeat (first | refine blk_drewN ?_ _ | refine blk_drew ?_ | refine blk_alloc ?_ _)); refine blk_put (cs := #[.int .i64 0, .int .i64 0, .string (⟨#[]⟩ : ByteArray)]) ?_ 0 _ rfl; (with_reducible repeat (first | refine blk_drewN ?_ _ | refine blk_drew ?_ | refine blk_alloc ?_ _)); exact BK177.out⟩, ⟨by repeat (first | (with_reducible first | exact HI175.out | apply IsS38.alloc | apply IsS38.drewN | apply IsS38.drew | apply IsS38.set_0 | apply IsS38.set_1 | apply IsS38.set_2 | refine IsS38.far ?_ NB175_177.out _) | exact HI175.out)⟩, ⟨by repeat (first | (with_reducible first | exact HB.out | apply below_alloc | apply pw_below_drewN | apply below_drew1 | refine below_set ?_ (IsS38.ge HI175.out) | refine below_set ?_ GE177.out) | exact HB.out)⟩⟩
                          case rest =>
                            clear HC26
                            try clear c1
                            try clear p1
                            try clear q1
                            try clear hx1
                            try clear c2
                            try clear p2
                            try clear c3
                            try clear c4
                            try clear c4b0
                            try clear c4b1
                            try clear p6
                            try clear c7
                            try clear c8
                            try clear c11
                            try clear c11b0
                            try clear c14
                            try clear c14b0
                            try clear c15
                            try clear c15b0
                            try clear c16
                            try clear c16b0
                            try clear c17
                            try clear c17b0
                            try clear c17b1
                            try clear p17
                            try clear q17
                            try clear hx17
                            try clear c19
                            try clear c23
                            try clear c25
                            try clear c25b0
                            try clear c25b1
                            try clear c27
                            try clear c28
                            try clear c28b0
                            try clear c29
                            try clear c31
                            try clear hcz20_0
                            try clear hcz20_1
                            try clear hcz20_2
                            try clear hcz24_0
                            try clear hcz24_1
                            try clear hcz24_2
                            try clear hcz30_0
                            try clear hcz30_1
                            try clear hcz30_2
                            try clear hcz32_0
                            try clear hcz32_1
                            try clear hcz32_2
                            try clear hfz20_0
                            try clear hfz20_1
                            try clear hfz20_2
                            try clear hfz24_0
                            try clear hfz24_1
                            try clear hfz24_2
                            try clear hfz30_0
                            try clear hfz30_1
                            try clear hfz30_2
                            try clear hfz32_0
                            try clear hfz32_1
                            try clear hfz32_2
                            try clear hx176_0
                            try clear hx176_1
                            try clear hx176_2
                            try clear p176
                            try clear p2
                            try clear q176
                            obtain ⟨kq, x11_25, rfl, HA, HJ25, BK177, HI175, HB⟩ := hcut
                            cases kq with
                            | zero => exact absurd HA.out (by simp [bywashlaw13_BufferPlays.j2])
                            | succ kj25 =>
                              have H := HA.out
                              clear HA
                              simp only [bywashlaw13_BufferPlays.j2] at H
                              replace H := Option.bind_eq_some_iff.mp H
                              obtain ⟨⟨t178, t179, t180, t181⟩, A330, H⟩ := H
                              replace H : (if t178 = true then (if x11_25 = true then (if x7_2.size + ((rd_T33 l1 x62_2).f2).size ≤ 9223372036854775807 then (bywashlaw13_BufferPlays.j3 kj25 a0 (x7_2 ++ ((rd_T33 l1 x62_2).f2)) x8_2 l1 (l1.length : Int) x62_2 t179 t180 t181) else (none)) else (some false)) else (if x11_25 = true then (some false) else (bywashlaw13_BufferPlays.j3 kj25 a0 x7_2 x8_2 l1 (l1.length : Int) x62_2 t179 t180 t181))) = some r := H
                              have A33 := Aside0.mk A330
                              clear A330
                              by_cases c34 : t178 = true
                              · subst c34
                                have H1 : (if x11_25 = true then (if x7_2.size + ((rd_T33 l1 x62_2).f2).size ≤ 9223372036854775807 then (bywashlaw13_BufferPlays.j3 kj25 a0 (x7_2 ++ ((rd_T33 l1 x62_2).f2)) x8_2 l1 (l1.length : Int) x62_2 t179 t180 t181) else (none)) else (some false)) = some r := by rw [if_pos rfl] at H; exact H
                                clear H
                                have H := H1
                                clear H1
                                by_cases c35 : x11_25 = true
                                · subst c35
                                  have H1 : (if x7_2.size + ((rd_T33 l1 x62_2).f2).size ≤ 9223372036854775807 then (bywashlaw13_BufferPlays.j3 kj25 a0 (x7_2 ++ ((rd_T33 l1 x62_2).f2)) x8_2 l1 (l1.length : Int) x62_2 t179 t180 t181) else (none)) = some r := by rw [if_pos rfl] at H; exact H
                                  clear H
                                  have H := H1
                                  clear H1
                                  by_cases c36 : x7_2.size + ((rd_T33 l1 x62_2).f2).size ≤ 9223372036854775807
                                  · rw [if_pos c36] at H
                                    have c36b0 := eq_true c36
                                    have c36b1 : decide (x7_2.size + ((rd_T33 l1 x62_2).f2).size ≤ 9223372036854775807) = true := decide_eq_true c36
                                    try have c36b2 : (9223372036854775807 < x7_2.size + ((rd_T33 l1 x62_2).f2).size) = False := eq_false (Nat.not_lt.2 c36)
                                    have H' := Aside0.mk H
                                    clear H
                                    have hnb37 := NB177_175.out
                                    have hnc37 := NB175_177.out
                                    have hcz38_0 : wc.cell? ⟨gb177, 0, none⟩ = some (.int .i64 ((rd_T33 l1 x62_2).f0)) := (blk_cell BK177.out 0).trans rfl
                                    have hcz38_1 : wc.cell? ⟨gb177, 1, none⟩ = some (.int .i64 ((rd_T33 l1 x62_2).f1)) := (blk_cell BK177.out 1).trans rfl
                                    have hcz38_2 : wc.cell? ⟨gb177, 2, none⟩ = some (.string ((rd_T33 l1 x62_2).f2)) := (blk_cell BK177.out 2).trans rfl
                                    have hfz38_0 := blk_frozen BK177.out 0
                                    have hfz38_1 := blk_frozen BK177.out 1
                                    have hfz38_2 := blk_frozen BK177.out 2
                                    go_wp2_with (first | ((with_reducible refine gate_callee (f := 9) rfl ?_); refine goesL_ (some 96) rfl rfl Try.func9 (by kernel_rfl) rfl #[.pointer (some ⟨g175, 0, none⟩), .string ((rd_T33 l1 x62_2).f2)] rfl (by (try simp only [List.map_toArray, List.map_cons, List.map_nil]); first | done | rfl | (simp only [List.length_drop, List.length_take]; rfl)) ?_; (with_reducible refine (buffer_Buffer_Put.calls g175 x176000_2 x176001_2 x176002_2 ((rd_T33 l1 x62_2).f2) true t179 t180 t181 w _ ?side1 ?side2 A33.out).mono ?_); (case side1 => repeat (first | (with_reducible first | exact HI175.out | apply IsS38.alloc | apply IsS38.drewN | apply IsS38.drew | apply IsS38.set_0 | apply IsS38.set_1 | apply IsS38.set_2 | refine IsS38.far ?_ NB175_177.out _) | exact HI175.out)); (case side2 => repeat (first | (with_reducible first | exact HB.out | apply below_alloc | apply pw_below_drewN | apply below_drew1 | refine below_set ?_ (IsS38.ge HI175.out) | refine below_set ?_ GE177.out) | exact HB.out)); rintro e w39 ⟨rfl, hi, hb, hk⟩; refine ⟨_, rfl, ?_⟩; have n0_ := Aside0.mk (KeepBut.blk hk (g' := gb177) (o := .cells #[.int .i64 ((rd_T33 l1 x62_2).f0), .int .i64 ((rd_T33 l1 x62_2).f1), .string ((rd_T33 l1 x62_2).f2)] 33 (0, 0)) (by (with_reducible repeat (first | refine blk_drewN ?_ _ | refine blk_drew ?_ | refine blk_alloc ?_ _)); exact BK177.out) NB177_175.out (by simp)); have n1_ := Aside0.mk (hb); have n2_ := Aside0.mk (hi); clear BK177; clear HB; clear HI175; have BK177 := n0_; have HB := n1_; have HI175 := n2_; clear n0_ n1_ n2_; (try clear hb); (try clear hb2); (try clear hk); (try clear hi); have hcz40_0 : w39.cell? ⟨gb177, 0, none⟩ = some (.int .i64 ((rd_T33 l1 x62_2).f0)) := (blk_cell BK177.out 0).trans rfl; have hcz40_1 : w39.cell? ⟨gb177, 1, none⟩ = some (.int .i64 ((rd_T33 l1 x62_2).f1)) := (blk_cell BK177.out 1).trans rfl; have hcz40_2 : w39.cell? ⟨gb177, 2, none⟩ = some (.string ((rd_T33 l1 x62_2).f2)) := (blk_cell BK177.out 2).trans rfl; have hfz40_0 := blk_frozen BK177.out 0; have hfz40_1 := blk_frozen BK177.out 1; have hfz40_2 := blk_frozen BK177.out 2))
                                    go_meet
                                    case rel => exact ⟨_, (x7_2 ++ ((rd_T33 l1 x62_2).f2)), (x8_2), (t179), (t180), (t181), (by first | rfl | (simp; done) | (simp [*]; done)), (by first | rfl | (simp; done) | (simp [*]; done)), H', ⟨by have := HJ2.out; have := HK2.out; have := HJ25.out; first | omega | exact Nat.le_refl _⟩, ⟨by (with_reducible repeat (first | refine blk_drewN ?_ _ | refine blk_drew ?_ | refine blk_alloc ?_ _)); exact BK177.out⟩, ⟨by repeat (first | (with_reducible first | exact HI175.out | apply IsS38.alloc | apply IsS38.drewN | apply IsS38.drew | apply IsS38.set_0 | apply IsS38.set_1 | apply IsS38.set_2 | refine IsS38.far ?_ NB175_177.out _) | exact HI175.out)⟩, ⟨by repeat (first | (with_reducible first | exact HB.out | apply below_alloc | apply pw_below_drewN | apply below_drew1 | refine below_set ?_ (IsS38.ge HI175.out) | refine below_set ?_ GE177.out) | exact HB.out)⟩⟩
                                  · rw [if_neg c36] at H
                                    exact absurd H (by simp)
                                · replace c35 := Bool.eq_false_iff.mpr c35
                                  subst c35
                                  have H1 : (some false) = some r := by rw [if_neg (show ¬ (false = true) by decide)] at H; exact H
                                  clear H
                                  have H := H1
                                  clear H1
                                  obtain rfl := Option.some.inj H
                                  have hnb41 := NB177_175.out
                                  have hnc41 := NB175_177.out
                                  have hcz42_0 : wc.cell? ⟨gb177, 0, none⟩ = some (.int .i64 ((rd_T33 l1 x62_2).f0)) := (blk_cell BK177.out 0).trans rfl
                                  have hcz42_1 : wc.cell? ⟨gb177, 1, none⟩ = some (.int .i64 ((rd_T33 l1 x62_2).f1)) := (blk_cell BK177.out 1).trans rfl
                                  have hcz42_2 : wc.cell? ⟨gb177, 2, none⟩ = some (.string ((rd_T33 l1 x62_2).f2)) := (blk_cell BK177.out 2).trans rfl
                                  have hfz42_0 := blk_frozen BK177.out 0
                                  have hfz42_1 := blk_frozen BK177.out 1
                                  have hfz42_2 := blk_frozen BK177.out 2
                                  go_wp2_with (first | ((with_reducible refine gate_callee (f := 9) rfl ?_); refine goesL_ (some 96) rfl rfl Try.func9 (by kernel_rfl) rfl #[.pointer (some ⟨g175, 0, none⟩), .string ((rd_T33 l1 x62_2).f2)] rfl (by (try simp only [List.map_toArray, List.map_cons, List.map_nil]); first | done | rfl | (simp only [List.length_drop, List.length_take]; rfl)) ?_; (with_reducible refine (buffer_Buffer_Put.calls g175 x176000_2 x176001_2 x176002_2 ((rd_T33 l1 x62_2).f2) true t179 t180 t181 w _ ?side1 ?side2 A33.out).mono ?_); (case side1 => repeat (first | (with_reducible first | exact HI175.out | apply IsS38.alloc | apply IsS38.drewN | apply IsS38.drew | apply IsS38.set_0 | apply IsS38.set_1 | apply IsS38.set_2 | refine IsS38.far ?_ NB175_177.out _) | exact HI175.out)); (case side2 => repeat (first | (with_reducible first | exact HB.out | apply below_alloc | apply pw_below_drewN | apply below_drew1 | refine below_set ?_ (IsS38.ge HI175.out) | refine below_set ?_ GE177.out) | exact HB.out)); rintro e w43 ⟨rfl, hi, hb, hk⟩; refine ⟨_, rfl, ?_⟩; have n0_ := Aside0.mk (KeepBut.blk hk (g' := gb177) (o := .cells #[.int .i64 ((rd_T33 l1 x62_2).f0), .int .i64 ((rd_T33 l1 x62_2).f1), .string ((rd_T33 l1 x62_2).f2)] 33 (0, 0)) (by (with_reducible repeat (first | refine blk_drewN ?_ _ | refine blk_drew ?_ | refine blk_alloc ?_ _)); exact BK177.out) NB177_175.out (by simp)); have n1_ := Aside0.mk (hb); have n2_ := Aside0.mk (hi); clear BK177; clear HB; clear HI175; have BK177 := n0_; have HB := n1_; have HI175 := n2_; clear n0_ n1_ n2_; (try clear hb); (try clear hb2); (try clear hk); (try clear hi)))
                                  go_ret
                                  exact ⟨by first | rfl | (simp [errW_none, errW_some] <;> rfl) | (simp [*, errW_none, errW_some] <;> rfl), by repeat (first | (with_reducible first | exact HB.out | apply below_alloc | apply pw_below_drewN | apply below_drew1 | refine below_set ?_ (IsS38.ge HI175.out) | refine below_set ?_ GE177.out) | exact HB.out)⟩
                              · replace c34 := Bool.eq_false_iff.mpr c34
                                subst c34
                                have H1 : (if x11_25 = true then (some false) else (bywashlaw13_BufferPlays.j3 kj25 a0 x7_2 x8_2 l1 (l1.length : Int) x62_2 t179 t180 t181)) = some r := by rw [if_neg (show ¬ (false = true) by decide)] at H; exact H
                                clear H
                                have H := H1
                                clear H1
                                by_cases c44 : x11_25 = true
                                · subst c44
                                  have H1 : (some false) = some r := by rw [if_pos rfl] at H; exact H
                                  clear H
                                  have H := H1
                                  clear H1
                                  obtain rfl := Option.some.inj H
                                  have hnb45 := NB177_175.out
                                  have hnc45 := NB175_177.out
                                  have hcz46_0 : wc.cell? ⟨gb177, 0, none⟩ = some (.int .i64 ((rd_T33 l1 x62_2).f0)) := (blk_cell BK177.out 0).trans rfl
                                  have hcz46_1 : wc.cell? ⟨gb177, 1, none⟩ = some (.int .i64 ((rd_T33 l1 x62_2).f1)) := (blk_cell BK177.out 1).trans rfl
                                  have hcz46_2 : wc.cell? ⟨gb177, 2, none⟩ = some (.string ((rd_T33 l1 x62_2).f2)) := (blk_cell BK177.out 2).trans rfl
                                  have hfz46_0 := blk_frozen BK177.out 0
                                  have hfz46_1 := blk_frozen BK177.out 1
                                  have hfz46_2 := blk_frozen BK177.out 2
                                  go_wp2_with (first | ((with_reducible refine gate_callee (f := 9) rfl ?_); refine goesL_ (some 96) rfl rfl Try.func9 (by kernel_rfl) rfl #[.pointer (some ⟨g175, 0, none⟩), .string ((rd_T33 l1 x62_2).f2)] rfl (by (try simp only [List.map_toArray, List.map_cons, List.map_nil]); first | done | rfl | (simp only [List.length_drop, List.length_take]; rfl)) ?_; (with_reducible refine (buffer_Buffer_Put.calls g175 x176000_2 x176001_2 x176002_2 ((rd_T33 l1 x62_2).f2) false t179 t180 t181 w _ ?side1 ?side2 A33.out).mono ?_); (case side1 => repeat (first | (with_reducible first | exact HI175.out | apply IsS38.alloc | apply IsS38.drewN | apply IsS38.drew | apply IsS38.set_0 | apply IsS38.set_1 | apply IsS38.set_2 | refine IsS38.far ?_ NB175_177.out _) | exact HI175.out)); (case side2 => repeat (first | (with_reducible first | exact HB.out | apply below_alloc | apply pw_below_drewN | apply below_drew1 | refine below_set ?_ (IsS38.ge HI175.out) | refine below_set ?_ GE177.out) | exact HB.out)); rintro e w47 ⟨rfl, hi, hb, hk⟩; refine ⟨_, rfl, ?_⟩; have n0_ := Aside0.mk (KeepBut.blk hk (g' := gb177) (o := .cells #[.int .i64 ((rd_T33 l1 x62_2).f0), .int .i64 ((rd_T33 l1 x62_2).f1), .string ((rd_T33 l1 x62_2).f2)] 33 (0, 0)) (by (with_reducible repeat (first | refine blk_drewN ?_ _ | refine blk_drew ?_ | refine blk_alloc ?_ _)); exact BK177.out) NB177_175.out (by simp)); have n1_ := Aside0.mk (hb); have n2_ := Aside0.mk (hi); clear BK177; clear HB; clear HI175; have BK177 := n0_; have HB := n1_; have HI175 := n2_; clear n0_ n1_ n2_; (try clear hb); (try clear hb2); (try clear hk); (try clear hi)))
                                  go_ret
                                  exact ⟨by first | rfl | (simp [errW_none, errW_some] <;> rfl) | (simp [*, errW_none, errW_some] <;> rfl), by repeat (first | (with_reducible first | exact HB.out | apply below_alloc | apply pw_below_drewN | apply below_drew1 | refine below_set ?_ (IsS38.ge HI175.out) | refine below_set ?_ GE177.out) | exact HB.out)⟩
                                · replace c44 := Bool.eq_false_iff.mpr c44
                                  subst c44
                                  have H1 : (bywashlaw13_BufferPlays.j3 kj25 a0 x7_2 x8_2 l1 (l1.length : Int) x62_2 t179 t180 t181) = some r := by rw [if_neg (show ¬ (false = true) by decide)] at H; exact H
                                  clear H
                                  have H := H1
                                  clear H1
                                  have H' := Aside0.mk H
                                  clear H
                                  have hnb48 := NB177_175.out
                                  have hnc48 := NB175_177.out
                                  have hcz49_0 : wc.cell? ⟨gb177, 0, none⟩ = some (.int .i64 ((rd_T33 l1 x62_2).f0)) := (blk_cell BK177.out 0).trans rfl
                                  have hcz49_1 : wc.cell? ⟨gb177, 1, none⟩ = some (.int .i64 ((rd_T33 l1 x62_2).f1)) := (blk_cell BK177.out 1).trans rfl
                                  have hcz49_2 : wc.cell? ⟨gb177, 2, none⟩ = some (.string ((rd_T33 l1 x62_2).f2)) := (blk_cell BK177.out 2).trans rfl
                                  have hfz49_0 := blk_frozen BK177.out 0
                                  have hfz49_1 := blk_frozen BK177.out 1
                                  have hfz49_2 := blk_frozen BK177.out 2
                                  go_wp2_with (first | ((with_reducible refine gate_callee (f := 9) rfl ?_); refine goesL_ (some 96) rfl rfl Try.func9 (by kernel_rfl) rfl #[.pointer (some ⟨g175, 0, none⟩), .string ((rd_T33 l1 x62_2).f2)] rfl (by (try simp only [List.map_toArray, List.map_cons, List.map_nil]); first | done | rfl | (simp only [List.length_drop, List.length_take]; rfl)) ?_; (with_reducible refine (buffer_Buffer_Put.calls g175 x176000_2 x176001_2 x176002_2 ((rd_T33 l1 x62_2).f2) false t179 t180 t181 w _ ?side1 ?side2 A33.out).mono ?_); (case side1 => repeat (first | (with_reducible first | exact HI175.out | apply IsS38.alloc | apply IsS38.drewN | apply IsS38.drew | apply IsS38.set_0 | apply IsS38.set_1 | apply IsS38.set_2 | refine IsS38.far ?_ NB175_177.out _) | exact HI175.out)); (case side2 => repeat (first | (with_reducible first | exact HB.out | apply below_alloc | apply pw_below_drewN | apply below_drew1 | refine below_set ?_ (IsS38.ge HI175.out) | refine below_set ?_ GE177.out) | exact HB.out)); rintro e w50 ⟨rfl, hi, hb, hk⟩; refine ⟨_, rfl, ?_⟩; have n0_ := Aside0.mk (KeepBut.blk hk (g' := gb177) (o := .cells #[.int .i64 ((rd_T33 l1 x62_2).f0), .int .i64 ((rd_T33 l1 x62_2).f1), .string ((rd_T33 l1 x62_2).f2)] 33 (0, 0)) (by (with_reducible repeat (first | refine blk_drewN ?_ _ | refine blk_drew ?_ | refine blk_alloc ?_ _)); exact BK177.out) NB177_175.out (by simp)); have n1_ := Aside0.mk (hb); have n2_ := Aside0.mk (hi); clear BK177; clear HB; clear HI175; have BK177 := n0_; have HB := n1_; have HI175 := n2_; clear n0_ n1_ n2_; (try clear hb); (try clear hb2); (try clear hk); (try clear hi)))
                                  go_meet
                                  case rel => exact ⟨_, (x7_2), (x8_2), (t179), (t180), (t181), (by first | rfl | (simp; done) | (simp [*]; done)), (by first | rfl | (simp; done) | (simp [*]; done)), H', ⟨by have := HJ2.out; have := HK2.out; have := HJ25.out; first | omega | exact Nat.le_refl _⟩, ⟨by (with_reducible repeat (first | refine blk_drewN ?_ _ | refine blk_drew ?_ | refine blk_alloc ?_ _)); exact BK177.out⟩, ⟨by repeat (first | (with_reducible first | exact HI175.out | apply IsS38.alloc | apply IsS38.drewN | apply IsS38.drew | apply IsS38.set_0 | apply IsS38.set_1 | apply IsS38.set_2 | refine IsS38.far ?_ NB175_177.out _) | exact HI175.out)⟩, ⟨by repeat (first | (with_reducible first | exact HB.out | apply below_alloc | apply pw_below_drewN | apply below_drew1 | refine below_set ?_ (IsS38.ge HI175.out) | refine below_set ?_ GE177.out) | exact HB.out)⟩⟩
                        · rw [if_neg c25] at H
                          have c25b0 : (((rd_T33 l1 x62_2).f0) == 1) = false := beq_eq_false_iff_ne.mpr c25
                          have c25b1 : (((rd_T33 l1 x62_2).f0) != 1) = true := bne_iff_ne.mpr c25
                          (first | rw [c25b0] | (simp only [i64_w, i32_w]; rw [c25b0]) | skip)
                          by_cases c51 : ((rd_T33 l1 x62_2).f0) = 2
                          · rw [if_pos c51] at H
                            have c51b0 : (((rd_T33 l1 x62_2).f0) == 2) = true := beq_iff_eq.mpr c51
                            have c51b1 : (((rd_T33 l1 x62_2).f0) != 2) = false := bne_eq_false_iff_eq.mpr c51
                            clear c51
                            obtain ⟨ji52, hji52⟩ : ∃ j_ : Int, (mx ((rd_T33 l1 x62_2).f1) 0) = j_ := ⟨_, rfl⟩
                            replace H : ((buffer_Buffer_Get.f x176000_2 x176001_2 x176002_2 ((rd_T33 l1 x62_2).f1)).bind fun bt182 => (if 0 ≤ (mn (ji52) (x7_2.size : Int)) then (if (mn (ji52) (x7_2.size : Int)) ≤ (x7_2.size : Int) then (if bt182.1.toList = (x7_2.extract 0 ((mn (ji52) (x7_2.size : Int)) : Int).toNat).toList then (bywashlaw13_BufferPlays.j3 k2 a0 (x7_2.extract ((mn (ji52) (x7_2.size : Int)) : Int).toNat x7_2.size) x8_2 l1 (l1.length : Int) x62_2 bt182.2.1 bt182.2.2.1 bt182.2.2.2) else (some false)) else (none)) else (none))) = some r := by first | (rw [hji52] at H; exact H) | (simp only [hji52] at H ⊢; exact H)
                            have hji52_ : (if ((rd_T33 l1 x62_2).f1) < 0 then 0 else ((rd_T33 l1 x62_2).f1)) = ji52 := hji52
                            obtain ⟨ji53, hji53⟩ : ∃ j_ : Int, (mn (ji52) (x7_2.size : Int)) = j_ := ⟨_, rfl⟩
                            replace H : ((buffer_Buffer_Get.f x176000_2 x176001_2 x176002_2 ((rd_T33 l1 x62_2).f1)).bind fun bt182 => (if 0 ≤ (ji53) then (if (ji53) ≤ (x7_2.size : Int) then (if bt182.1.toList = (x7_2.extract 0 ((ji53) : Int).toNat).toList then (bywashlaw13_BufferPlays.j3 k2 a0 (x7_2.extract ((ji53) : Int).toNat x7_2.size) x8_2 l1 (l1.length : Int) x62_2 bt182.2.1 bt182.2.2.1 bt182.2.2.2) else (some false)) else (none)) else (none))) = some r := by first | (rw [hji53] at H; exact H) | (simp only [hji53] at H ⊢; exact H)
                            have hji53_ : (if (x7_2.size : Int) < (ji52) then (x7_2.size : Int) else (ji52)) = ji53 := hji53
                            replace H := Option.bind_eq_some_iff.mp H
                            obtain ⟨⟨t182, t183, t184, t185⟩, A540, H⟩ := H
                            replace H : (if 0 ≤ (ji53) then (if (ji53) ≤ (x7_2.size : Int) then (if t182.toList = (x7_2.extract 0 ((ji53) : Int).toNat).toList then (bywashlaw13_BufferPlays.j3 k2 a0 (x7_2.extract ((ji53) : Int).toNat x7_2.size) x8_2 l1 (l1.length : Int) x62_2 t183 t184 t185) else (some false)) else (none)) else (none)) = some r := H
                            have A54 := Aside0.mk A540
                            clear A540
                            by_cases c55 : 0 ≤ (ji53)
                            · rw [if_pos c55] at H
                              have c55b0 := eq_true c55
                              have c55b1 : decide (0 ≤ (ji53)) = true := decide_eq_true c55
                              clear c55
                              by_cases c56 : (ji53) ≤ (x7_2.size : Int)
                              · rw [if_pos c56] at H
                                have c56b0 := eq_true c56
                                have c56b1 : decide ((ji53) ≤ (x7_2.size : Int)) = true := decide_eq_true c56
                                clear c56
                                by_cases c57 : t182.toList = (x7_2.extract 0 ((ji53) : Int).toNat).toList
                                · rw [if_pos c57] at H
                                  have c57b0 : (t182.toList == (x7_2.extract 0 ((ji53) : Int).toNat).toList) = true := beq_iff_eq.mpr c57
                                  have c57b1 : (t182.toList != (x7_2.extract 0 ((ji53) : Int).toNat).toList) = false := bne_eq_false_iff_eq.mpr c57
                                  clear c57
                                  have c58b0 := eq_true (of_decide_eq_true (by first | (with_reducible assumption) | assumption) : 0 ≤ (ji53))
                                  have c59b0 := eq_true (of_decide_eq_true (by first | (with_reducible assumption) | assumption) : (ji53) ≤ (x7_2.size : Int))
                                  have H' := Aside0.mk H
                                  clear H
                                  have hnb60 := NB177_175.out
                                  have hnc60 := NB175_177.out
                                  have hcz61_0 : w22.cell? ⟨gb177, 0, none⟩ = some (.int .i64 0) := (blk_cell BK177.out 0).trans rfl
                                  have hcz61_1 : w22.cell? ⟨gb177, 1, none⟩ = some (.int .i64 0) := (blk_cell BK177.out 1).trans rfl
                                  have hcz61_2 : w22.cell? ⟨gb177, 2, none⟩ = some (.string (⟨#[]⟩ : ByteArray)) := (blk_cell BK177.out 2).trans rfl
                                  have hfz61_0 := blk_frozen BK177.out 0
                                  have hfz61_1 := blk_frozen BK177.out 1
                                  have hfz61_2 := blk_frozen BK177.out 2
                                  try go_wp2
                                  have n0_ : Aside0 ((((w22.setCell ⟨gb177, 0, none⟩ (.int .i64 ((rd_T33 l1 x62_2).f0))).setCell ⟨gb177, 1, none⟩ (.int .i64 ((rd_T33 l1 x62_2).f1))).setCell ⟨gb177, 2, none⟩ (.string ((rd_T33 l1 x62_2).f2))).heap[gb177]? = some (.cells #[.int .i64 ((rd_T33 l1 x62_2).f0), .int .i64 ((rd_T33 l1 x62_2).f1), .string ((rd_T33 l1 x62_2).f2)] 33 (0, 0))) := ⟨by (with_reducible repeat (first | refine blk_drewN ?_ _ | refine blk_drew ?_ | refine blk_alloc ?_ _)); refine blk_put (cs := #[.int .i64 ((rd_T33 l1 x62_2).f0), .int .i64 ((rd_T33 l1 x62_2).f1), .string (⟨#[]⟩ : ByteArray)]) ?_ 2 _ rfl; (with_reducible repeat (first | refine blk_drewN ?_ _ | refine blk_drew ?_ | refine blk_alloc ?_ _)); refine blk_put (cs := #[.int .i64 ((rd_T33 l1 x62_2).f0), .int .i64 0, .string (⟨#[]⟩ : ByteArray)]) ?_ 1 _ rfl; (with_reducible repeat (first | refine blk_drewN ?_ _ | refine blk_drew ?_ | refine blk_alloc ?_ _)); refine blk_put (cs := #[.int .i64 0, .int .i64 0, .string (⟨#[]⟩ : ByteArray)]) ?_ 0 _ rfl; (with_reducible repeat (first | refine blk_drewN ?_ _ | refine blk_drew ?_ | refine blk_alloc ?_ _)); exact BK177.out⟩
                                  have n1_ : Aside0 (IsS38 w (((w22.setCell ⟨gb177, 0, none⟩ (.int .i64 ((rd_T33 l1 x62_2).f0))).setCell ⟨gb177, 1, none⟩ (.int .i64 ((rd_T33 l1 x62_2).f1))).setCell ⟨gb177, 2, none⟩ (.string ((rd_T33 l1 x62_2).f2))) g175 x176000_2 x176001_2 x176002_2) := ⟨by repeat (first | (with_reducible first | exact HI175.out | apply IsS38.alloc | apply IsS38.drewN | apply IsS38.drew | apply IsS38.set_0 | apply IsS38.set_1 | apply IsS38.set_2 | refine IsS38.far ?_ NB175_177.out _) | exact HI175.out)⟩
                                  have n2_ : Aside0 (Below w.heap.size w (((w22.setCell ⟨gb177, 0, none⟩ (.int .i64 ((rd_T33 l1 x62_2).f0))).setCell ⟨gb177, 1, none⟩ (.int .i64 ((rd_T33 l1 x62_2).f1))).setCell ⟨gb177, 2, none⟩ (.string ((rd_T33 l1 x62_2).f2)))) := ⟨by repeat (first | (with_reducible first | exact HB.out | apply below_alloc | apply pw_below_drewN | apply below_drew1 | refine below_set ?_ (IsS38.ge HI175.out) | refine below_set ?_ GE177.out) | exact HB.out)⟩
                                  (try clear BK177)
                                  (try clear HI175)
                                  (try clear HB)
                                  generalize (((w22.setCell ⟨gb177, 0, none⟩ (.int .i64 ((rd_T33 l1 x62_2).f0))).setCell ⟨gb177, 1, none⟩ (.int .i64 ((rd_T33 l1 x62_2).f1))).setCell ⟨gb177, 2, none⟩ (.string ((rd_T33 l1 x62_2).f2))) = w62 at n0_ n1_ n2_ ⊢
                                  have BK177 := n0_
                                  have HI175 := n1_
                                  have HB := n2_
                                  clear n0_ n1_ n2_
                                  have n0_ := Aside0.mk (blk_drew BK177.out)
                                  have n1_ := Aside0.mk (IsS38.drew HI175.out)
                                  have n2_ := Aside0.mk (below_drew1 HB.out)
                                  clear BK177
                                  clear HI175
                                  clear HB
                                  have BK177 := n0_
                                  have HI175 := n1_
                                  have HB := n2_
                                  clear n0_ n1_ n2_
                                  refine start_ (n := 8) (S := fun w' => w'.cell? ⟨gb177, 0, none⟩ = some (.int .i64 ((rd_T33 l1 x62_2).f0)) ∧ w'.cell? ⟨gb177, 1, none⟩ = some (.int .i64 ((rd_T33 l1 x62_2).f1)) ∧ w'.cell? ⟨gb177, 2, none⟩ = some (.string ((rd_T33 l1 x62_2).f2))) (ds := []) #[false, false, false, false, false, false, false, false] (by kernel_rfl) rfl rfl ⟨(blk_cell BK177.out 0).trans rfl, (blk_cell BK177.out 1).trans rfl, (blk_cell BK177.out 2).trans rfl⟩ (fun hHeld => ?_); refine with_tabW bywashlaw13_BufferPlays.tab24 bywashlaw13_BufferPlays.bits24 (fun HT_ HW_ => ?_)
                                  generalize w62.drew = w63 at BK177 HI175 HB hHeld ⊢
                                  refine pure_ (i := 0) (N := some 112) (v := ?_) (a' := ?_) #[true, false, false, false, false, false, false, false] rfl rfl (any_of HT_.out (by kernel_rfl)) (fun _ _ _ h => h) (Or.inl ⟨by rfl, ?_⟩) ?_ ?_
                                  rotate_left
                                  · intro w'
                                    go_simp
                                    with_reducible rfl
                                  rotate_left
                                  · simp only [Act.put, List.setIfInBounds_toArray, List.set_cons_zero, List.set_cons_succ, i64_w, i32_w]
                                    rfl
                                  refine pure_ (i := 1) (N := some 113) (v := ?_) (a' := ?_) #[true, true, false, false, false, false, false, false] rfl rfl (any_of HT_.out (by kernel_rfl)) (fun _ _ _ h => h) (Or.inl ⟨by rfl, ?_⟩) ?_ ?_
                                  rotate_left
                                  · intro w'
                                    go_simp
                                    with_reducible rfl
                                  rotate_left
                                  · simp only [Act.put, List.setIfInBounds_toArray, List.set_cons_zero, List.set_cons_succ, i64_w, i32_w]
                                    rfl
                                  refine pure_ (i := 4) (N := some 116) (v := ?_) (a' := ?_) #[true, true, false, false, true, false, false, false] rfl rfl (any_of HT_.out (by kernel_rfl)) (fun _ _ _ h => h) (Or.inl ⟨by rfl, ?_⟩) ?_ ?_
                                  rotate_left
                                  · intro w'
                                    go_simp
                                    with_reducible rfl
                                  rotate_left
                                  · simp only [Act.put, List.setIfInBounds_toArray, List.set_cons_zero, List.set_cons_succ, i64_w, i32_w]
                                    rfl
                                  refine pure_ (i := 5) (N := some 117) (v := ?_) (a' := ?_) #[true, true, false, false, true, true, false, false] rfl rfl (any_of HT_.out (by kernel_rfl)) (fun _ _ _ h => h) (Or.inl ⟨by rfl, ?_⟩) ?_ ?_
                                  rotate_left
                                  · intro w'
                                    go_simp
                                    with_reducible rfl
                                  rotate_left
                                  · simp only [Act.put, List.setIfInBounds_toArray, List.set_cons_zero, List.set_cons_succ, i64_w, i32_w]
                                    rfl
                                  refine pure_ (i := 6) (N := some 118) (v := ?_) (a' := ?_) #[true, true, false, false, true, true, true, false] rfl rfl (any_of HT_.out (by kernel_rfl)) (fun _ _ _ h => h) (Or.inl ⟨by rfl, ?_⟩) ?_ ?_
                                  rotate_left
                                  · intro w'
                                    go_simp
                                    with_reducible rfl
                                  rotate_left
                                  · simp only [Act.put, List.setIfInBounds_toArray, List.set_cons_zero, List.set_cons_succ, i64_w, i32_w]
                                    rfl
                                  refine take_ (i := 2) (N := some 114) (v := ?_) (a' := ?_) #[true, true, true, false, true, true, true, false] rfl rfl (take_ofW HT_.out HW_.out (by kernel_rfl)) (fun _ _ _ h => h) (Or.inl ⟨by rfl, ?_⟩) hHeld ?_ ?_
                                  rotate_left
                                  · rintro w' ⟨s0, s1, s2⟩
                                    go_simp
                                    with_reducible rfl
                                  rotate_left
                                  · simp only [Act.put, List.setIfInBounds_toArray, List.set_cons_zero, List.set_cons_succ, i64_w, i32_w]
                                    rfl
                                  refine one_ (i := 3) (N := some 115) #[true, true, true, true, true, true, true, false] rfl rfl (one_of HT_.out (by kernel_rfl)) (by decide) (fun K hK => ?_)
                                  refine goes_ Try.func10 (by kernel_rfl) rfl #[.pointer (some ⟨g175, 0, none⟩), .int .i64 ((rd_T33 l1 x62_2).f1)] (by rfl) rfl rfl (by (try simp only [List.map_toArray, List.map_cons, List.map_nil]); first | done | rfl | (simp only [List.length_drop, List.length_take]; rfl)) ?_
                                  with_reducible refine (buffer_Buffer_Get.calls g175 x176000_2 x176001_2 x176002_2 ((rd_T33 l1 x62_2).f1) t182 t183 t184 t185 w _ ?side1 ?side2 A54.out).mono ?_
                                  (case side1 => repeat (first | (with_reducible first | exact HI175.out | apply IsS38.alloc | apply IsS38.drewN | apply IsS38.drew | apply IsS38.set_0 | apply IsS38.set_1 | apply IsS38.set_2 | refine IsS38.far ?_ NB175_177.out _) | exact HI175.out))
                                  (case side2 => repeat (first | (with_reducible first | exact HB.out | apply below_alloc | apply pw_below_drewN | apply below_drew1 | refine below_set ?_ (IsS38.ge HI175.out) | refine below_set ?_ GE177.out) | exact HB.out))
                                  rintro e w64 ⟨rfl, hi, hb, hk⟩
                                  refine ⟨_, rfl, ?_⟩
                                  have n0_ := Aside0.mk (KeepBut.blk hk (g' := gb177) (o := .cells #[.int .i64 ((rd_T33 l1 x62_2).f0), .int .i64 ((rd_T33 l1 x62_2).f1), .string ((rd_T33 l1 x62_2).f2)] 33 (0, 0)) (by (with_reducible repeat (first | refine blk_drewN ?_ _ | refine blk_drew ?_ | refine blk_alloc ?_ _)); exact BK177.out) NB177_175.out (by simp))
                                  have n1_ := Aside0.mk (hb)
                                  have n2_ := Aside0.mk (hi)
                                  clear BK177
                                  clear HB
                                  clear HI175
                                  have BK177 := n0_
                                  have HB := n1_
                                  have HI175 := n2_
                                  clear n0_ n1_ n2_
                                  (try clear hb)
                                  (try clear hb2)
                                  (try clear hk)
                                  (try clear hi)
                                  refine hK.out _ _ ⟨(blk_cell BK177.out 0).trans rfl, (blk_cell BK177.out 1).trans rfl, (blk_cell BK177.out 2).trans rfl⟩ (fun hHeld => ?_)
                                  clear hK K
                                  refine norm_ (a' := ?_) ?_ ?_
                                  rotate_left
                                  · show Act.put _ (some 115) _ = _
                                    simp only [Act.put, List.setIfInBounds_toArray, List.set_cons_zero, List.set_cons_succ, i64_w, i32_w]
                                    rfl
                                  refine pure_ (i := 7) (N := some 119) (v := ?_) (a' := ?_) #[true, true, true, true, true, true, true, true] rfl rfl (any_of HT_.out (by kernel_rfl)) (fun _ _ _ h => h) (Or.inl ⟨by rfl, ?_⟩) ?_ ?_
                                  rotate_left
                                  · intro w'
                                    go_simp
                                    with_reducible rfl
                                  rotate_left
                                  · simp only [Act.put, List.setIfInBounds_toArray, List.set_cons_zero, List.set_cons_succ, i64_w, i32_w]
                                    rfl
                                  refine done_ (done_of HT_.out (by kernel_rfl)) ?_
                                  try go_wp2
                                  go_meet
                                  case rel => exact ⟨_, (x7_2.extract ((ji53) : Int).toNat x7_2.size), (x8_2), (t183), (t184), (t185), (by first | rfl | (simp; done) | (simp only [← hji53] <;> (first | rfl | simp)) | (simp [*]; done)), (by first | rfl | (simp; done) | (simp [*]; done)), H', ⟨by have := HJ2.out; have := HK2.out; first | omega | exact Nat.le_refl _⟩, ⟨by (with_reducible repeat (first | refine blk_drewN ?_ _ | refine blk_drew ?_ | refine blk_alloc ?_ _)); exact BK177.out⟩, ⟨by repeat (first | (with_reducible first | exact HI175.out | apply IsS38.alloc | apply IsS38.drewN | apply IsS38.drew | apply IsS38.set_0 | apply IsS38.set_1 | apply IsS38.set_2 | refine IsS38.far ?_ NB175_177.out _) | exact HI175.out)⟩, ⟨by repeat (first | (with_reducible first | exact HB.out | apply below_alloc | apply pw_below_drewN | apply below_drew1 | refine below_set ?_ (IsS38.ge HI175.out) | refine below_set ?_ GE177.out) | exact HB.out)⟩⟩
                                · rw [if_neg c57] at H
                                  have c57b0 : (t182.toList == (x7_2.extract 0 ((ji53) : Int).toNat).toList) = false := beq_eq_false_iff_ne.mpr c57
                                  have c57b1 : (t182.toList != (x7_2.extract 0 ((ji53) : Int).toNat).toList) = true := bne_iff_ne.mpr c57
                                  obtain rfl := Option.some.inj H
                                  have hnb65 := NB177_175.out
                                  have hnc65 := NB175_177.out
                                  have hcz66_0 : w22.cell? ⟨gb177, 0, none⟩ = some (.int .i64 0) := (blk_cell BK177.out 0).trans rfl
                                  have hcz66_1 : w22.cell? ⟨gb177, 1, none⟩ = some (.int .i64 0) := (blk_cell BK177.out 1).trans rfl
                                  have hcz66_2 : w22.cell? ⟨gb177, 2, none⟩ = some (.string (⟨#[]⟩ : ByteArray)) := (blk_cell BK177.out 2).trans rfl
                                  have hfz66_0 := blk_frozen BK177.out 0
                                  have hfz66_1 := blk_frozen BK177.out 1
                                  have hfz66_2 := blk_frozen BK177.out 2
                                  try go_wp2
                                  have n0_ : Aside0 ((((w22.setCell ⟨gb177, 0, none⟩ (.int .i64 ((rd_T33 l1 x62_2).f0))).setCell ⟨gb177, 1, none⟩ (.int .i64 ((rd_T33 l1 x62_2).f1))).setCell ⟨gb177, 2, none⟩ (.string ((rd_T33 l1 x62_2).f2))).heap[gb177]? = some (.cells #[.int .i64 ((rd_T33 l1 x62_2).f0), .int .i64 ((rd_T33 l1 x62_2).f1), .string ((rd_T33 l1 x62_2).f2)] 33 (0, 0))) := ⟨by (with_reducible repeat (first | refine blk_drewN ?_ _ | refine blk_drew ?_ | refine blk_alloc ?_ _)); refine blk_put (cs := #[.int .i64 ((rd_T33 l1 x62_2).f0), .int .i64 ((rd_T33 l1 x62_2).f1), .string (⟨#[]⟩ : ByteArray)]) ?_ 2 _ rfl; (with_reducible repeat (first | refine blk_drewN ?_ _ | refine blk_drew ?_ | refine blk_alloc ?_ _)); refine blk_put (cs := #[.int .i64 ((rd_T33 l1 x62_2).f0), .int .i64 0, .string (⟨#[]⟩ : ByteArray)]) ?_ 1 _ rfl; (with_reducible repeat (first | refine blk_drewN ?_ _ | refine blk_drew ?_ | refine blk_alloc ?_ _)); refine blk_put (cs := #[.int .i64 0, .int .i64 0, .string (⟨#[]⟩ : ByteArray)]) ?_ 0 _ rfl; (with_reducible repeat (first | refine blk_drewN ?_ _ | refine blk_drew ?_ | refine blk_alloc ?_ _)); exact BK177.out⟩
                                  have n1_ : Aside0 (IsS38 w (((w22.setCell ⟨gb177, 0, none⟩ (.int .i64 ((rd_T33 l1 x62_2).f0))).setCell ⟨gb177, 1, none⟩ (.int .i64 ((rd_T33 l1 x62_2).f1))).setCell ⟨gb177, 2, none⟩ (.string ((rd_T33 l1 x62_2).f2))) g175 x176000_2 x176001_2 x176002_2) := ⟨by repeat (first | (with_reducible first | exact HI175.out | apply IsS38.alloc | apply IsS38.drewN | apply IsS38.drew | apply IsS38.set_0 | apply IsS38.set_1 | apply IsS38.set_2 | refine IsS38.far ?_ NB175_177.out _) | exact HI175.out)⟩
                                  have n2_ : Aside0 (Below w.heap.size w (((w22.setCell ⟨gb177, 0, none⟩ (.int .i64 ((rd_T33 l1 x62_2).f0))).setCell ⟨gb177, 1, none⟩ (.int .i64 ((rd_T33 l1 x62_2).f1))).setCell ⟨gb177, 2, none⟩ (.string ((rd_T33 l1 x62_2).f2)))) := ⟨by repeat (first | (with_reducible first | exact HB.out | apply below_alloc | apply pw_below_drewN | apply below_drew1 | refine below_set ?_ (IsS38.ge HI175.out) | refine below_set ?_ GE177.out) | exact HB.out)⟩
                                  (try clear BK177)
                                  (try clear HI175)
                                  (try clear HB)
                                  generalize (((w22.setCell ⟨gb177, 0, none⟩ (.int .i64 ((rd_T33 l1 x62_2).f0))).setCell ⟨gb177, 1, none⟩ (.int .i64 ((rd_T33 l1 x62_2).f1))).setCell ⟨gb177, 2, none⟩ (.string ((rd_T33 l1 x62_2).f2))) = w67 at n0_ n1_ n2_ ⊢
                                  have BK177 := n0_
                                  have HI175 := n1_
                                  have HB := n2_
                                  clear n0_ n1_ n2_
                                  have n0_ := Aside0.mk (blk_drew BK177.out)
                                  have n1_ := Aside0.mk (IsS38.drew HI175.out)
                                  have n2_ := Aside0.mk (below_drew1 HB.out)
                                  clear BK177
                                  clear HI175
                                  clear HB
                                  have BK177 := n0_
                                  have HI175 := n1_
                                  have HB := n2_
                                  clear n0_ n1_ n2_
                                  refine start_ (n := 8) (S := fun w' => w'.cell? ⟨gb177, 0, none⟩ = some (.int .i64 ((rd_T33 l1 x62_2).f0)) ∧ w'.cell? ⟨gb177, 1, none⟩ = some (.int .i64 ((rd_T33 l1 x62_2).f1)) ∧ w'.cell? ⟨gb177, 2, none⟩ = some (.string ((rd_T33 l1 x62_2).f2))) (ds := []) #[false, false, false, false, false, false, false, false] (by kernel_rfl) rfl rfl ⟨(blk_cell BK177.out 0).trans rfl, (blk_cell BK177.out 1).trans rfl, (blk_cell BK177.out 2).trans rfl⟩ (fun hHeld => ?_); refine with_tabW bywashlaw13_BufferPlays.tab24 bywashlaw13_BufferPlays.bits24 (fun HT_ HW_ => ?_)
                                  generalize w67.drew = w68 at BK177 HI175 HB hHeld ⊢
                                  refine pure_ (i := 0) (N := some 112) (v := ?_) (a' := ?_) #[true, false, false, false, false, false, false, false] rfl rfl (any_of HT_.out (by kernel_rfl)) (fun _ _ _ h => h) (Or.inl ⟨by rfl, ?_⟩) ?_ ?_
                                  rotate_left
                                  · intro w'
                                    go_simp
                                    with_reducible rfl
                                  rotate_left
                                  · simp only [Act.put, List.setIfInBounds_toArray, List.set_cons_zero, List.set_cons_succ, i64_w, i32_w]
                                    rfl
                                  refine pure_ (i := 1) (N := some 113) (v := ?_) (a' := ?_) #[true, true, false, false, false, false, false, false] rfl rfl (any_of HT_.out (by kernel_rfl)) (fun _ _ _ h => h) (Or.inl ⟨by rfl, ?_⟩) ?_ ?_
                                  rotate_left
                                  · intro w'
                                    go_simp
                                    with_reducible rfl
                                  rotate_left
                                  · simp only [Act.put, List.setIfInBounds_toArray, List.set_cons_zero, List.set_cons_succ, i64_w, i32_w]
                                    rfl
                                  refine pure_ (i := 4) (N := some 116) (v := ?_) (a' := ?_) #[true, true, false, false, true, false, false, false] rfl rfl (any_of HT_.out (by kernel_rfl)) (fun _ _ _ h => h) (Or.inl ⟨by rfl, ?_⟩) ?_ ?_
                                  rotate_left
                                  · intro w'
                                    go_simp
                                    with_reducible rfl
                                  rotate_left
                                  · simp only [Act.put, List.setIfInBounds_toArray, List.set_cons_zero, List.set_cons_succ, i64_w, i32_w]
                                    rfl
                                  refine pure_ (i := 5) (N := some 117) (v := ?_) (a' := ?_) #[true, true, false, false, true, true, false, false] rfl rfl (any_of HT_.out (by kernel_rfl)) (fun _ _ _ h => h) (Or.inl ⟨by rfl, ?_⟩) ?_ ?_
                                  rotate_left
                                  · intro w'
                                    go_simp
                                    with_reducible rfl
                                  rotate_left
                                  · simp only [Act.put, List.setIfInBounds_toArray, List.set_cons_zero, List.set_cons_succ, i64_w, i32_w]
                                    rfl
                                  refine pure_ (i := 6) (N := some 118) (v := ?_) (a' := ?_) #[true, true, false, false, true, true, true, false] rfl rfl (any_of HT_.out (by kernel_rfl)) (fun _ _ _ h => h) (Or.inl ⟨by rfl, ?_⟩) ?_ ?_
                                  rotate_left
                                  · intro w'
                                    go_simp
                                    with_reducible rfl
                                  rotate_left
                                  · simp only [Act.put, List.setIfInBounds_toArray, List.set_cons_zero, List.set_cons_succ, i64_w, i32_w]
                                    rfl
                                  refine take_ (i := 2) (N := some 114) (v := ?_) (a' := ?_) #[true, true, true, false, true, true, true, false] rfl rfl (take_ofW HT_.out HW_.out (by kernel_rfl)) (fun _ _ _ h => h) (Or.inl ⟨by rfl, ?_⟩) hHeld ?_ ?_
                                  rotate_left
                                  · rintro w' ⟨s0, s1, s2⟩
                                    go_simp
                                    with_reducible rfl
                                  rotate_left
                                  · simp only [Act.put, List.setIfInBounds_toArray, List.set_cons_zero, List.set_cons_succ, i64_w, i32_w]
                                    rfl
                                  refine one_ (i := 3) (N := some 115) #[true, true, true, true, true, true, true, false] rfl rfl (one_of HT_.out (by kernel_rfl)) (by decide) (fun K hK => ?_)
                                  refine goes_ Try.func10 (by kernel_rfl) rfl #[.pointer (some ⟨g175, 0, none⟩), .int .i64 ((rd_T33 l1 x62_2).f1)] (by rfl) rfl rfl (by (try simp only [List.map_toArray, List.map_cons, List.map_nil]); first | done | rfl | (simp only [List.length_drop, List.length_take]; rfl)) ?_
                                  with_reducible refine (buffer_Buffer_Get.calls g175 x176000_2 x176001_2 x176002_2 ((rd_T33 l1 x62_2).f1) t182 t183 t184 t185 w _ ?side1 ?side2 A54.out).mono ?_
                                  (case side1 => repeat (first | (with_reducible first | exact HI175.out | apply IsS38.alloc | apply IsS38.drewN | apply IsS38.drew | apply IsS38.set_0 | apply IsS38.set_1 | apply IsS38.set_2 | refine IsS38.far ?_ NB175_177.out _) | exact HI175.out))
                                  (case side2 => repeat (first | (with_reducible first | exact HB.out | apply below_alloc | apply pw_below_drewN | apply below_drew1 | refine below_set ?_ (IsS38.ge HI175.out) | refine below_set ?_ GE177.out) | exact HB.out))
                                  rintro e w69 ⟨rfl, hi, hb, hk⟩
                                  refine ⟨_, rfl, ?_⟩
                                  have n0_ := Aside0.mk (KeepBut.blk hk (g' := gb177) (o := .cells #[.int .i64 ((rd_T33 l1 x62_2).f0), .int .i64 ((rd_T33 l1 x62_2).f1), .string ((rd_T33 l1 x62_2).f2)] 33 (0, 0)) (by (with_reducible repeat (first | refine blk_drewN ?_ _ | refine blk_drew ?_ | refine blk_alloc ?_ _)); exact BK177.out) NB177_175.out (by simp))
                                  have n1_ := Aside0.mk (hb)
                                  have n2_ := Aside0.mk (hi)
                                  clear BK177
                                  clear HB
                                  clear HI175
                                  have BK177 := n0_
                                  have HB := n1_
                                  have HI175 := n2_
                                  clear n0_ n1_ n2_
                                  (try clear hb)
                                  (try clear hb2)
                                  (try clear hk)
                                  (try clear hi)
                                  refine hK.out _ _ ⟨(blk_cell BK177.out 0).trans rfl, (blk_cell BK177.out 1).trans rfl, (blk_cell BK177.out 2).trans rfl⟩ (fun hHeld => ?_)
                                  clear hK K
                                  refine norm_ (a' := ?_) ?_ ?_
                                  rotate_left
                                  · show Act.put _ (some 115) _ = _
                                    simp only [Act.put, List.setIfInBounds_toArray, List.set_cons_zero, List.set_cons_succ, i64_w, i32_w]
                                    rfl
                                  refine pure_ (i := 7) (N := some 119) (v := ?_) (a' := ?_) #[true, true, true, true, true, true, true, true] rfl rfl (any_of HT_.out (by kernel_rfl)) (fun _ _ _ h => h) (Or.inl ⟨by rfl, ?_⟩) ?_ ?_
                                  rotate_left
                                  · intro w'
                                    go_simp
                                    with_reducible rfl
                                  rotate_left
                                  · simp only [Act.put, List.setIfInBounds_toArray, List.set_cons_zero, List.set_cons_succ, i64_w, i32_w]
                                    rfl
                                  refine done_ (done_of HT_.out (by kernel_rfl)) ?_
                                  try go_wp2
                                  go_ret
                                  exact ⟨by first | rfl | (simp [errW_none, errW_some] <;> rfl) | (simp only [← hji52, ← hji53]; first | rfl | (simp [errW_none, errW_some] <;> rfl)) | (simp [*, errW_none, errW_some] <;> rfl), by repeat (first | (with_reducible first | exact HB.out | apply below_alloc | apply pw_below_drewN | apply below_drew1 | refine below_set ?_ (IsS38.ge HI175.out) | refine below_set ?_ GE177.out) | exact HB.out)⟩
                              · rw [if_neg c56] at H
                                exact absurd H (by simp)
                            · rw [if_neg c55] at H
                              exact absurd H (by simp)
                          · rw [if_neg c51] at H
                            have c51b0 : (((rd_T33 l1 x62_2).f0) == 2) = false := beq_eq_false_iff_ne.mpr c51
                            have c51b1 : (((rd_T33 l1 x62_2).f0) != 2) = true := bne_iff_ne.mpr c51
                            by_cases c70 : ((rd_T33 l1 x62_2).f0) = 3
                            · rw [if_pos c70] at H
                              have c70b0 : (((rd_T33 l1 x62_2).f0) == 3) = true := beq_iff_eq.mpr c70
                              have c70b1 : (((rd_T33 l1 x62_2).f0) != 3) = false := bne_eq_false_iff_eq.mpr c70
                              clear c70
                              replace H := Option.bind_eq_some_iff.mp H
                              obtain ⟨⟨t186, t187, t188, t189⟩, A710, H⟩ := H
                              replace H : (if t186 = true then (if x8_2 = true then (some false) else (bywashlaw13_BufferPlays.j3 k2 a0 x7_2 true l1 (l1.length : Int) x62_2 t187 t188 t189)) else (if x8_2 = true then (bywashlaw13_BufferPlays.j3 k2 a0 x7_2 true l1 (l1.length : Int) x62_2 t187 t188 t189) else (some false))) = some r := H
                              have A71 := Aside0.mk A710
                              clear A710
                              by_cases c72 : t186 = true
                              · subst c72
                                have H1 : (if x8_2 = true then (some false) else (bywashlaw13_BufferPlays.j3 k2 a0 x7_2 true l1 (l1.length : Int) x62_2 t187 t188 t189)) = some r := by rw [if_pos rfl] at H; exact H
                                clear H
                                have H := H1
                                clear H1
                                by_cases c73 : x8_2 = true
                                · subst c73
                                  have H1 : (some false) = some r := by rw [if_pos rfl] at H; exact H
                                  clear H
                                  have H := H1
                                  clear H1
                                  obtain rfl := Option.some.inj H
                                  go_wp2_with (first | ((with_reducible refine gate_callee (f := 12) rfl ?_); refine goesL_ (some 126) rfl rfl Try.func12 (by kernel_rfl) rfl #[.pointer (some ⟨g175, 0, none⟩)] rfl (by (try simp only [List.map_toArray, List.map_cons, List.map_nil]); first | done | rfl | (simp only [List.length_drop, List.length_take]; rfl)) ?_; (with_reducible refine (buffer_Buffer_End.calls g175 x176000_2 x176001_2 x176002_2 true t187 t188 t189 w _ ?side1 ?side2 A71.out).mono ?_); (case side1 => repeat (first | (with_reducible first | exact HI175.out | apply IsS38.alloc | apply IsS38.drewN | apply IsS38.drew | apply IsS38.set_0 | apply IsS38.set_1 | apply IsS38.set_2 | refine IsS38.far ?_ NB175_177.out _) | exact HI175.out)); (case side2 => repeat (first | (with_reducible first | exact HB.out | apply below_alloc | apply pw_below_drewN | apply below_drew1 | refine below_set ?_ (IsS38.ge HI175.out) | refine below_set ?_ GE177.out) | exact HB.out)); rintro e w74 ⟨rfl, hi, hb, hk⟩; refine ⟨_, rfl, ?_⟩; have n0_ := Aside0.mk (KeepBut.blk hk (g' := gb177) (o := .cells #[.int .i64 ((rd_T33 l1 x62_2).f0), .int .i64 ((rd_T33 l1 x62_2).f1), .string ((rd_T33 l1 x62_2).f2)] 33 (0, 0)) (by (with_reducible repeat (first | refine blk_drewN ?_ _ | refine blk_drew ?_ | refine blk_alloc ?_ _)); refine blk_put (cs := #[.int .i64 ((rd_T33 l1 x62_2).f0), .int .i64 ((rd_T33 l1 x62_2).f1), .string (⟨#[]⟩ : ByteArray)]) ?_ 2 _ rfl; (with_reducible repeat (first | refine blk_drewN ?_ _ | refine blk_drew ?_ | refine blk_alloc ?_ _)); refine blk_put (cs := #[.int .i64 ((rd_T33 l1 x62_2).f0), .int .i64 0, .string (⟨#[]⟩ : ByteArray)]) ?_ 1 _ rfl; (with_reducible repeat (first | refine blk_drewN ?_ _ | refine blk_drew ?_ | refine blk_alloc ?_ _)); refine blk_put (cs := #[.int .i64 0, .int .i64 0, .string (⟨#[]⟩ : ByteArray)]) ?_ 0 _ rfl; (with_reducible repeat (first | refine blk_drewN ?_ _ | refine blk_drew ?_ | refine blk_alloc ?_ _)); exact BK177.out) NB177_175.out (by simp)); have n1_ := Aside0.mk (hb); have n2_ := Aside0.mk (hi); clear BK177; clear HB; clear HI175; have BK177 := n0_; have HB := n1_; have HI175 := n2_; clear n0_ n1_ n2_; (try clear hb); (try clear hb2); (try clear hk); (try clear hi)))
                                  go_ret
                                  exact ⟨by first | rfl | (simp [errW_none, errW_some] <;> rfl) | (simp [*, errW_none, errW_some] <;> rfl), by repeat (first | (with_reducible first | exact HB.out | apply below_alloc | apply pw_below_drewN | apply below_drew1 | refine below_set ?_ (IsS38.ge HI175.out) | refine below_set ?_ GE177.out) | exact HB.out)⟩
                                · replace c73 := Bool.eq_false_iff.mpr c73
                                  subst c73
                                  have H1 : (bywashlaw13_BufferPlays.j3 k2 a0 x7_2 true l1 (l1.length : Int) x62_2 t187 t188 t189) = some r := by rw [if_neg (show ¬ (false = true) by decide)] at H; exact H
                                  clear H
                                  have H := H1
                                  clear H1
                                  have H' := Aside0.mk H
                                  clear H
                                  go_wp2_with (first | ((with_reducible refine gate_callee (f := 12) rfl ?_); refine goesL_ (some 126) rfl rfl Try.func12 (by kernel_rfl) rfl #[.pointer (some ⟨g175, 0, none⟩)] rfl (by (try simp only [List.map_toArray, List.map_cons, List.map_nil]); first | done | rfl | (simp only [List.length_drop, List.length_take]; rfl)) ?_; (with_reducible refine (buffer_Buffer_End.calls g175 x176000_2 x176001_2 x176002_2 true t187 t188 t189 w _ ?side1 ?side2 A71.out).mono ?_); (case side1 => repeat (first | (with_reducible first | exact HI175.out | apply IsS38.alloc | apply IsS38.drewN | apply IsS38.drew | apply IsS38.set_0 | apply IsS38.set_1 | apply IsS38.set_2 | refine IsS38.far ?_ NB175_177.out _) | exact HI175.out)); (case side2 => repeat (first | (with_reducible first | exact HB.out | apply below_alloc | apply pw_below_drewN | apply below_drew1 | refine below_set ?_ (IsS38.ge HI175.out) | refine below_set ?_ GE177.out) | exact HB.out)); rintro e w75 ⟨rfl, hi, hb, hk⟩; refine ⟨_, rfl, ?_⟩; have n0_ := Aside0.mk (KeepBut.blk hk (g' := gb177) (o := .cells #[.int .i64 ((rd_T33 l1 x62_2).f0), .int .i64 ((rd_T33 l1 x62_2).f1), .string ((rd_T33 l1 x62_2).f2)] 33 (0, 0)) (by (with_reducible repeat (first | refine blk_drewN ?_ _ | refine blk_drew ?_ | refine blk_alloc ?_ _)); refine blk_put (cs := #[.int .i64 ((rd_T33 l1 x62_2).f0), .int .i64 ((rd_T33 l1 x62_2).f1), .string (⟨#[]⟩ : ByteArray)]) ?_ 2 _ rfl; (with_reducible repeat (first | refine blk_drewN ?_ _ | refine blk_drew ?_ | refine blk_alloc ?_ _)); refine blk_put (cs := #[.int .i64 ((rd_T33 l1 x62_2).f0), .int .i64 0, .string (⟨#[]⟩ : ByteArray)]) ?_ 1 _ rfl; (with_reducible repeat (first | refine blk_drewN ?_ _ | refine blk_drew ?_ | refine blk_alloc ?_ _)); refine blk_put (cs := #[.int .i64 0, .int .i64 0, .string (⟨#[]⟩ : ByteArray)]) ?_ 0 _ rfl; (with_reducible repeat (first | refine blk_drewN ?_ _ | refine blk_drew ?_ | refine blk_alloc ?_ _)); exact BK177.out) NB177_175.out (by simp)); have n1_ := Aside0.mk (hb); have n2_ := Aside0.mk (hi); clear BK177; clear HB; clear HI175; have BK177 := n0_; have HB := n1_; have HI175 := n2_; clear n0_ n1_ n2_; (try clear hb); (try clear hb2); (try clear hk); (try clear hi)))
                                  go_meet
                                  case rel => exact ⟨_, (x7_2), (true), (t187), (t188), (t189), (by first | rfl | (simp; done) | (simp [*]; done)), (by first | rfl | (simp; done) | (simp [*]; done)), H', ⟨by have := HJ2.out; have := HK2.out; first | omega | exact Nat.le_refl _⟩, ⟨by (with_reducible repeat (first | refine blk_drewN ?_ _ | refine blk_drew ?_ | refine blk_alloc ?_ _)); exact BK177.out⟩, ⟨by repeat (first | (with_reducible first | exact HI175.out | apply IsS38.alloc | apply IsS38.drewN | apply IsS38.drew | apply IsS38.set_0 | apply IsS38.set_1 | apply IsS38.set_2 | refine IsS38.far ?_ NB175_177.out _) | exact HI175.out)⟩, ⟨by repeat (first | (with_reducible first | exact HB.out | apply below_alloc | apply pw_below_drewN | apply below_drew1 | refine below_set ?_ (IsS38.ge HI175.out) | refine below_set ?_ GE177.out) | exact HB.out)⟩⟩
                              · replace c72 := Bool.eq_false_iff.mpr c72
                                subst c72
                                have H1 : (if x8_2 = true then (bywashlaw13_BufferPlays.j3 k2 a0 x7_2 true l1 (l1.length : Int) x62_2 t187 t188 t189) else (some false)) = some r := by rw [if_neg (show ¬ (false = true) by decide)] at H; exact H
                                clear H
                                have H := H1
                                clear H1
                                by_cases c76 : x8_2 = true
                                · subst c76
                                  have H1 : (bywashlaw13_BufferPlays.j3 k2 a0 x7_2 true l1 (l1.length : Int) x62_2 t187 t188 t189) = some r := by rw [if_pos rfl] at H; exact H
                                  clear H
                                  have H := H1
                                  clear H1
                                  have H' := Aside0.mk H
                                  clear H
                                  go_wp2_with (first | ((with_reducible refine gate_callee (f := 12) rfl ?_); refine goesL_ (some 126) rfl rfl Try.func12 (by kernel_rfl) rfl #[.pointer (some ⟨g175, 0, none⟩)] rfl (by (try simp only [List.map_toArray, List.map_cons, List.map_nil]); first | done | rfl | (simp only [List.length_drop, List.length_take]; rfl)) ?_; (with_reducible refine (buffer_Buffer_End.calls g175 x176000_2 x176001_2 x176002_2 false t187 t188 t189 w _ ?side1 ?side2 A71.out).mono ?_); (case side1 => repeat (first | (with_reducible first | exact HI175.out | apply IsS38.alloc | apply IsS38.drewN | apply IsS38.drew | apply IsS38.set_0 | apply IsS38.set_1 | apply IsS38.set_2 | refine IsS38.far ?_ NB175_177.out _) | exact HI175.out)); (case side2 => repeat (first | (with_reducible first | exact HB.out | apply below_alloc | apply pw_below_drewN | apply below_drew1 | refine below_set ?_ (IsS38.ge HI175.out) | refine below_set ?_ GE177.out) | exact HB.out)); rintro e w77 ⟨rfl, hi, hb, hk⟩; refine ⟨_, rfl, ?_⟩; have n0_ := Aside0.mk (KeepBut.blk hk (g' := gb177) (o := .cells #[.int .i64 ((rd_T33 l1 x62_2).f0), .int .i64 ((rd_T33 l1 x62_2).f1), .string ((rd_T33 l1 x62_2).f2)] 33 (0, 0)) (by (with_reducible repeat (first | refine blk_drewN ?_ _ | refine blk_drew ?_ | refine blk_alloc ?_ _)); refine blk_put (cs := #[.int .i64 ((rd_T33 l1 x62_2).f0), .int .i64 ((rd_T33 l1 x62_2).f1), .string (⟨#[]⟩ : ByteArray)]) ?_ 2 _ rfl; (with_reducible repeat (first | refine blk_drewN ?_ _ | refine blk_drew ?_ | refine blk_alloc ?_ _)); refine blk_put (cs := #[.int .i64 ((rd_T33 l1 x62_2).f0), .int .i64 0, .string (⟨#[]⟩ : ByteArray)]) ?_ 1 _ rfl; (with_reducible repeat (first | refine blk_drewN ?_ _ | refine blk_drew ?_ | refine blk_alloc ?_ _)); refine blk_put (cs := #[.int .i64 0, .int .i64 0, .string (⟨#[]⟩ : ByteArray)]) ?_ 0 _ rfl; (with_reducible repeat (first | refine blk_drewN ?_ _ | refine blk_drew ?_ | refine blk_alloc ?_ _)); exact BK177.out) NB177_175.out (by simp)); have n1_ := Aside0.mk (hb); have n2_ := Aside0.mk (hi); clear BK177; clear HB; clear HI175; have BK177 := n0_; have HB := n1_; have HI175 := n2_; clear n0_ n1_ n2_; (try clear hb); (try clear hb2); (try clear hk); (try clear hi)))
                                  go_meet
                                  case rel => exact ⟨_, (x7_2), (true), (t187), (t188), (t189), (by first | rfl | (simp; done) | (simp [*]; done)), (by first | rfl | (simp; done) | (simp [*]; done)), H', ⟨by have := HJ2.out; have := HK2.out; first | omega | exact Nat.le_refl _⟩, ⟨by (with_reducible repeat (first | refine blk_drewN ?_ _ | refine blk_drew ?_ | refine blk_alloc ?_ _)); exact BK177.out⟩, ⟨by repeat (first | (with_reducible first | exact HI175.out | apply IsS38.alloc | apply IsS38.drewN | apply IsS38.drew | apply IsS38.set_0 | apply IsS38.set_1 | apply IsS38.set_2 | refine IsS38.far ?_ NB175_177.out _) | exact HI175.out)⟩, ⟨by repeat (first | (with_reducible first | exact HB.out | apply below_alloc | apply pw_below_drewN | apply below_drew1 | refine below_set ?_ (IsS38.ge HI175.out) | refine below_set ?_ GE177.out) | exact HB.out)⟩⟩
                                · replace c76 := Bool.eq_false_iff.mpr c76
                                  subst c76
                                  have H1 : (some false) = some r := by rw [if_neg (show ¬ (false = true) by decide)] at H; exact H
                                  clear H
                                  have H := H1
                                  clear H1
                                  obtain rfl := Option.some.inj H
                                  go_wp2_with (first | ((with_reducible refine gate_callee (f := 12) rfl ?_); refine goesL_ (some 126) rfl rfl Try.func12 (by kernel_rfl) rfl #[.pointer (some ⟨g175, 0, none⟩)] rfl (by (try simp only [List.map_toArray, List.map_cons, List.map_nil]); first | done | rfl | (simp only [List.length_drop, List.length_take]; rfl)) ?_; (with_reducible refine (buffer_Buffer_End.calls g175 x176000_2 x176001_2 x176002_2 false t187 t188 t189 w _ ?side1 ?side2 A71.out).mono ?_); (case side1 => repeat (first | (with_reducible first | exact HI175.out | apply IsS38.alloc | apply IsS38.drewN | apply IsS38.drew | apply IsS38.set_0 | apply IsS38.set_1 | apply IsS38.set_2 | refine IsS38.far ?_ NB175_177.out _) | exact HI175.out)); (case side2 => repeat (first | (with_reducible first | exact HB.out | apply below_alloc | apply pw_below_drewN | apply below_drew1 | refine below_set ?_ (IsS38.ge HI175.out) | refine below_set ?_ GE177.out) | exact HB.out)); rintro e w78 ⟨rfl, hi, hb, hk⟩; refine ⟨_, rfl, ?_⟩; have n0_ := Aside0.mk (KeepBut.blk hk (g' := gb177) (o := .cells #[.int .i64 ((rd_T33 l1 x62_2).f0), .int .i64 ((rd_T33 l1 x62_2).f1), .string ((rd_T33 l1 x62_2).f2)] 33 (0, 0)) (by (with_reducible repeat (first | refine blk_drewN ?_ _ | refine blk_drew ?_ | refine blk_alloc ?_ _)); refine blk_put (cs := #[.int .i64 ((rd_T33 l1 x62_2).f0), .int .i64 ((rd_T33 l1 x62_2).f1), .string (⟨#[]⟩ : ByteArray)]) ?_ 2 _ rfl; (with_reducible repeat (first | refine blk_drewN ?_ _ | refine blk_drew ?_ | refine blk_alloc ?_ _)); refine blk_put (cs := #[.int .i64 ((rd_T33 l1 x62_2).f0), .int .i64 0, .string (⟨#[]⟩ : ByteArray)]) ?_ 1 _ rfl; (with_reducible repeat (first | refine blk_drewN ?_ _ | refine blk_drew ?_ | refine blk_alloc ?_ _)); refine blk_put (cs := #[.int .i64 0, .int .i64 0, .string (⟨#[]⟩ : ByteArray)]) ?_ 0 _ rfl; (with_reducible repeat (first | refine blk_drewN ?_ _ | refine blk_drew ?_ | refine blk_alloc ?_ _)); exact BK177.out) NB177_175.out (by simp)); have n1_ := Aside0.mk (hb); have n2_ := Aside0.mk (hi); clear BK177; clear HB; clear HI175; have BK177 := n0_; have HB := n1_; have HI175 := n2_; clear n0_ n1_ n2_; (try clear hb); (try clear hb2); (try clear hk); (try clear hi)))
                                  go_ret
                                  exact ⟨by first | rfl | (simp [errW_none, errW_some] <;> rfl) | (simp [*, errW_none, errW_some] <;> rfl), by repeat (first | (with_reducible first | exact HB.out | apply below_alloc | apply pw_below_drewN | apply below_drew1 | refine below_set ?_ (IsS38.ge HI175.out) | refine below_set ?_ GE177.out) | exact HB.out)⟩
                            · rw [if_neg c70] at H
                              have c70b0 : (((rd_T33 l1 x62_2).f0) == 3) = false := beq_eq_false_iff_ne.mpr c70
                              have c70b1 : (((rd_T33 l1 x62_2).f0) != 3) = true := bne_iff_ne.mpr c70
                              by_cases c79 : ((rd_T33 l1 x62_2).f0) = 4
                              · rw [if_pos c79] at H
                                have c79b0 : (((rd_T33 l1 x62_2).f0) == 4) = true := beq_iff_eq.mpr c79
                                have c79b1 : (((rd_T33 l1 x62_2).f0) != 4) = false := bne_eq_false_iff_eq.mpr c79
                                clear c79
                                replace H := Option.bind_eq_some_iff.mp H
                                obtain ⟨⟨t190, t191, t192, t193⟩, A800, H⟩ := H
                                replace H : (if t190 = (x7_2.size : Int) then (bywashlaw13_BufferPlays.j3 k2 a0 (⟨#[]⟩ : ByteArray) true l1 (l1.length : Int) x62_2 t191 t192 t193) else (some false)) = some r := H
                                have A80 := Aside0.mk A800
                                clear A800
                                by_cases c81 : t190 = (x7_2.size : Int)
                                · rw [if_pos c81] at H
                                  have c81b0 : (t190 == (x7_2.size : Int)) = true := beq_iff_eq.mpr c81
                                  have c81b1 : (t190 != (x7_2.size : Int)) = false := bne_eq_false_iff_eq.mpr c81
                                  clear c81
                                  have H' := Aside0.mk H
                                  clear H
                                  go_wp2_with (first | ((with_reducible refine gate_callee (f := 13) rfl ?_); refine goesL_ (some 132) rfl rfl Try.func13 (by kernel_rfl) rfl #[.pointer (some ⟨g175, 0, none⟩)] rfl (by (try simp only [List.map_toArray, List.map_cons, List.map_nil]); first | done | rfl | (simp only [List.length_drop, List.length_take]; rfl)) ?_; (with_reducible refine (buffer_Buffer_Drop.calls g175 x176000_2 x176001_2 x176002_2 t190 t191 t192 t193 w _ ?side1 ?side2 A80.out).mono ?_); (case side1 => repeat (first | (with_reducible first | exact HI175.out | apply IsS38.alloc | apply IsS38.drewN | apply IsS38.drew | apply IsS38.set_0 | apply IsS38.set_1 | apply IsS38.set_2 | refine IsS38.far ?_ NB175_177.out _) | exact HI175.out)); (case side2 => repeat (first | (with_reducible first | exact HB.out | apply below_alloc | apply pw_below_drewN | apply below_drew1 | refine below_set ?_ (IsS38.ge HI175.out) | refine below_set ?_ GE177.out) | exact HB.out)); rintro e w82 ⟨rfl, hi, hb, hk⟩; refine ⟨_, rfl, ?_⟩; have n0_ := Aside0.mk (KeepBut.blk hk (g' := gb177) (o := .cells #[.int .i64 ((rd_T33 l1 x62_2).f0), .int .i64 ((rd_T33 l1 x62_2).f1), .string ((rd_T33 l1 x62_2).f2)] 33 (0, 0)) (by (with_reducible repeat (first | refine blk_drewN ?_ _ | refine blk_drew ?_ | refine blk_alloc ?_ _)); refine blk_put (cs := #[.int .i64 ((rd_T33 l1 x62_2).f0), .int .i64 ((rd_T33 l1 x62_2).f1), .string (⟨#[]⟩ : ByteArray)]) ?_ 2 _ rfl; (with_reducible repeat (first | refine blk_drewN ?_ _ | refine blk_drew ?_ | refine blk_alloc ?_ _)); refine blk_put (cs := #[.int .i64 ((rd_T33 l1 x62_2).f0), .int .i64 0, .string (⟨#[]⟩ : ByteArray)]) ?_ 1 _ rfl; (with_reducible repeat (first | refine blk_drewN ?_ _ | refine blk_drew ?_ | refine blk_alloc ?_ _)); refine blk_put (cs := #[.int .i64 0, .int .i64 0, .string (⟨#[]⟩ : ByteArray)]) ?_ 0 _ rfl; (with_reducible repeat (first | refine blk_drewN ?_ _ | refine blk_drew ?_ | refine blk_alloc ?_ _)); exact BK177.out) NB177_175.out (by simp)); have n1_ := Aside0.mk (hb); have n2_ := Aside0.mk (hi); clear BK177; clear HB; clear HI175; have BK177 := n0_; have HB := n1_; have HI175 := n2_; clear n0_ n1_ n2_; (try clear hb); (try clear hb2); (try clear hk); (try clear hi)))
                                  go_meet
                                  case rel => exact ⟨_, ((⟨#[]⟩ : ByteArray)), (true), (t191), (t192), (t193), (by first | rfl | (simp; done) | (simp [*]; done)), (by first | rfl | (simp; done) | (simp [*]; done)), H', ⟨by have := HJ2.out; have := HK2.out; first | omega | exact Nat.le_refl _⟩, ⟨by (with_reducible repeat (first | refine blk_drewN ?_ _ | refine blk_drew ?_ | refine blk_alloc ?_ _)); exact BK177.out⟩, ⟨by repeat (first | (with_reducible first | exact HI175.out | apply IsS38.alloc | apply IsS38.drewN | apply IsS38.drew | apply IsS38.set_0 | apply IsS38.set_1 | apply IsS38.set_2 | refine IsS38.far ?_ NB175_177.out _) | exact HI175.out)⟩, ⟨by repeat (first | (with_reducible first | exact HB.out | apply below_alloc | apply pw_below_drewN | apply below_drew1 | refine below_set ?_ (IsS38.ge HI175.out) | refine below_set ?_ GE177.out) | exact HB.out)⟩⟩
                                · rw [if_neg c81] at H
                                  have c81b0 : (t190 == (x7_2.size : Int)) = false := beq_eq_false_iff_ne.mpr c81
                                  have c81b1 : (t190 != (x7_2.size : Int)) = true := bne_iff_ne.mpr c81
                                  obtain rfl := Option.some.inj H
                                  go_wp2_with (first | ((with_reducible refine gate_callee (f := 13) rfl ?_); refine goesL_ (some 132) rfl rfl Try.func13 (by kernel_rfl) rfl #[.pointer (some ⟨g175, 0, none⟩)] rfl (by (try simp only [List.map_toArray, List.map_cons, List.map_nil]); first | done | rfl | (simp only [List.length_drop, List.length_take]; rfl)) ?_; (with_reducible refine (buffer_Buffer_Drop.calls g175 x176000_2 x176001_2 x176002_2 t190 t191 t192 t193 w _ ?side1 ?side2 A80.out).mono ?_); (case side1 => repeat (first | (with_reducible first | exact HI175.out | apply IsS38.alloc | apply IsS38.drewN | apply IsS38.drew | apply IsS38.set_0 | apply IsS38.set_1 | apply IsS38.set_2 | refine IsS38.far ?_ NB175_177.out _) | exact HI175.out)); (case side2 => repeat (first | (with_reducible first | exact HB.out | apply below_alloc | apply pw_below_drewN | apply below_drew1 | refine below_set ?_ (IsS38.ge HI175.out) | refine below_set ?_ GE177.out) | exact HB.out)); rintro e w83 ⟨rfl, hi, hb, hk⟩; refine ⟨_, rfl, ?_⟩; have n0_ := Aside0.mk (KeepBut.blk hk (g' := gb177) (o := .cells #[.int .i64 ((rd_T33 l1 x62_2).f0), .int .i64 ((rd_T33 l1 x62_2).f1), .string ((rd_T33 l1 x62_2).f2)] 33 (0, 0)) (by (with_reducible repeat (first | refine blk_drewN ?_ _ | refine blk_drew ?_ | refine blk_alloc ?_ _)); refine blk_put (cs := #[.int .i64 ((rd_T33 l1 x62_2).f0), .int .i64 ((rd_T33 l1 x62_2).f1), .string (⟨#[]⟩ : ByteArray)]) ?_ 2 _ rfl; (with_reducible repeat (first | refine blk_drewN ?_ _ | refine blk_drew ?_ | refine blk_alloc ?_ _)); refine blk_put (cs := #[.int .i64 ((rd_T33 l1 x62_2).f0), .int .i64 0, .string (⟨#[]⟩ : ByteArray)]) ?_ 1 _ rfl; (with_reducible repeat (first | refine blk_drewN ?_ _ | refine blk_drew ?_ | refine blk_alloc ?_ _)); refine blk_put (cs := #[.int .i64 0, .int .i64 0, .string (⟨#[]⟩ : ByteArray)]) ?_ 0 _ rfl; (with_reducible repeat (first | refine blk_drewN ?_ _ | refine blk_drew ?_ | refine blk_alloc ?_ _)); exact BK177.out) NB177_175.out (by simp)); have n1_ := Aside0.mk (hb); have n2_ := Aside0.mk (hi); clear BK177; clear HB; clear HI175; have BK177 := n0_; have HB := n1_; have HI175 := n2_; clear n0_ n1_ n2_; (try clear hb); (try clear hb2); (try clear hk); (try clear hi)))
                                  go_ret
                                  exact ⟨by first | rfl | (simp [errW_none, errW_some] <;> rfl) | (simp [*, errW_none, errW_some] <;> rfl), by repeat (first | (with_reducible first | exact HB.out | apply below_alloc | apply pw_below_drewN | apply below_drew1 | refine below_set ?_ (IsS38.ge HI175.out) | refine below_set ?_ GE177.out) | exact HB.out)⟩
                              · rw [if_neg c79] at H
                                have c79b0 : (((rd_T33 l1 x62_2).f0) == 4) = false := beq_eq_false_iff_ne.mpr c79
                                have c79b1 : (((rd_T33 l1 x62_2).f0) != 4) = true := bne_iff_ne.mpr c79
                                have H' := Aside0.mk H
                                clear H
                                go_wp2
                                go_meet
                                case rel => exact ⟨_, (x7_2), (x8_2), (x176000_2), (x176001_2), (x176002_2), (by first | rfl | (simp; done) | (simp [*]; done)), (by first | rfl | (simp; done) | (simp [*]; done)), H', ⟨by have := HJ2.out; have := HK2.out; first | omega | exact Nat.le_refl _⟩, ⟨by (with_reducible repeat (first | refine blk_drewN ?_ _ | refine blk_drew ?_ | refine blk_alloc ?_ _)); refine blk_put (cs := #[.int .i64 ((rd_T33 l1 x62_2).f0), .int .i64 ((rd_T33 l1 x62_2).f1), .string (⟨#[]⟩ : ByteArray)]) ?_ 2 _ rfl; (with_reducible repeat (first | refine blk_drewN ?_ _ | refine blk_drew ?_ | refine blk_alloc ?_ _)); refine blk_put (cs := #[.int .i64 ((rd_T33 l1 x62_2).f0), .int .i64 0, .string (⟨#[]⟩ : ByteArray)]) ?_ 1 _ rfl; (with_reducible repeat (first | refine blk_drewN ?_ _ | refine blk_drew ?_ | refine blk_alloc ?_ _)); refine blk_put (cs := #[.int .i64 0, .int .i64 0, .string (⟨#[]⟩ : ByteArray)]) ?_ 0 _ rfl; (with_reducible repeat (first | refine blk_drewN ?_ _ | refine blk_drew ?_ | refine blk_alloc ?_ _)); exact BK177.out⟩, ⟨by repeat (first | (with_reducible first | exact HI175.out | apply IsS38.alloc | apply IsS38.drewN | apply IsS38.drew | apply IsS38.set_0 | apply IsS38.set_1 | apply IsS38.set_2 | refine IsS38.far ?_ NB175_177.out _) | exact HI175.out)⟩, ⟨by repeat (first | (with_reducible first | exact HB.out | apply below_alloc | apply pw_below_drewN | apply below_drew1 | refine below_set ?_ (IsS38.ge HI175.out) | refine below_set ?_ GE177.out) | exact HB.out)⟩⟩
                      case rest =>
                        clear HC21
                        try clear c1
                        try clear p1
                        try clear q1
                        try clear hx1
                        try clear c2
                        try clear p2
                        try clear c3
                        try clear c4
                        try clear c4b0
                        try clear c4b1
                        try clear c5
                        try clear c6
                        try clear p6
                        try clear c7
                        try clear c8
                        try clear c9
                        try clear c10
                        try clear c11
                        try clear c11b0
                        try clear c12
                        try clear c13
                        try clear c14
                        try clear c14b0
                        try clear c15
                        try clear c15b0
                        try clear c16
                        try clear c16b0
                        try clear c17
                        try clear c17b0
                        try clear c17b1
                        try clear p17
                        try clear q17
                        try clear hx17
                        try clear c19
                        try clear c23
                        try clear c25
                        try clear c25b0
                        try clear c25b1
                        try clear c27
                        try clear c28
                        try clear c28b0
                        try clear c29
                        try clear c31
                        try clear c34
                        try clear c35
                        try clear c36
                        try clear c36b0
                        try clear c36b1
                        try clear c36b2
                        try clear c37
                        try clear c41
                        try clear c44
                        try clear c45
                        try clear c48
                        try clear c51
                        try clear c51b0
                        try clear c51b1
                        try clear c55
                        try clear c55b0
                        try clear c55b1
                        try clear c56
                        try clear c56b0
                        try clear c56b1
                        try clear c57
                        try clear c57b0
                        try clear c57b1
                        try clear c58
                        try clear c58b0
                        try clear c59
                        try clear c59b0
                        try clear c60
                        try clear p64
                        try clear c65
                        try clear c70
                        try clear c70b0
                        try clear c70b1
                        try clear c72
                        try clear c73
                        try clear c76
                        try clear c79
                        try clear c79b0
                        try clear c79b1
                        try clear c81
                        try clear c81b0
                        try clear c81b1
                        try clear hcz20_0
                        try clear hcz20_1
                        try clear hcz20_2
                        try clear hcz24_0
                        try clear hcz24_1
                        try clear hcz24_2
                        try clear hcz30_0
                        try clear hcz30_1
                        try clear hcz30_2
                        try clear hcz32_0
                        try clear hcz32_1
                        try clear hcz32_2
                        try clear hcz38_0
                        try clear hcz38_1
                        try clear hcz38_2
                        try clear hcz40_0
                        try clear hcz40_1
                        try clear hcz40_2
                        try clear hcz42_0
                        try clear hcz42_1
                        try clear hcz42_2
                        try clear hcz46_0
                        try clear hcz46_1
                        try clear hcz46_2
                        try clear hcz49_0
                        try clear hcz49_1
                        try clear hcz49_2
                        try clear hcz61_0
                        try clear hcz61_1
                        try clear hcz61_2
                        try clear hcz66_0
                        try clear hcz66_1
                        try clear hcz66_2
                        try clear hfz20_0
                        try clear hfz20_1
                        try clear hfz20_2
                        try clear hfz24_0
                        try clear hfz24_1
                        try clear hfz24_2
                        try clear hfz30_0
                        try clear hfz30_1
                        try clear hfz30_2
                        try clear hfz32_0
                        try clear hfz32_1
                        try clear hfz32_2
                        try clear hfz38_0
                        try clear hfz38_1
                        try clear hfz38_2
                        try clear hfz40_0
                        try clear hfz40_1
                        try clear hfz40_2
                        try clear hfz42_0
                        try clear hfz42_1
                        try clear hfz42_2
                        try clear hfz46_0
                        try clear hfz46_1
                        try clear hfz46_2
                        try clear hfz49_0
                        try clear hfz49_1
                        try clear hfz49_2
                        try clear hfz61_0
                        try clear hfz61_1
                        try clear hfz61_2
                        try clear hfz66_0
                        try clear hfz66_1
                        try clear hfz66_2
                        try clear hx176_0
                        try clear hx176_1
                        try clear hx176_2
                        try clear p1
                        try clear p17
                        try clear p176
                        try clear p2
                        try clear p6
                        try clear q1
                        try clear q17
                        try clear q176
                        obtain ⟨kq, x7_20, x8_20, x176000_20, x176001_20, x176002_20, rfl, rfl, HA, HJ20, BK177, HI175, HB⟩ := hcut
                        cases kq with
                        | zero => exact absurd HA.out (by simp [bywashlaw13_BufferPlays.j3])
                        | succ kj20 =>
                          have H := HA.out
                          clear HA
                          simp only [bywashlaw13_BufferPlays.j3] at H
                          replace H := Option.bind_eq_some_iff.mp H
                          obtain ⟨⟨t194, t195, t196, t197⟩, A840, H⟩ := H
                          replace H : (if t194 = (x7_20.size : Int) then ((buffer_Buffer_Ended.f t195 t196 t197).bind fun bt198 => (if bt198.1 = true then (if x8_20 = true then ((buffer_Buffer_Done.f bt198.2.1 bt198.2.2.1 bt198.2.2.2).bind fun bt202 => (if bt202.1 = true then (if x7_20.toList = ([] : List UInt8) then (bywashlaw13_BufferPlays.l0 kj20 a0 x7_20 x8_20 l1 (l1.length : Int) (wrap64 (x62_2 + 1)) bt202.2.1 bt202.2.2.1 bt202.2.2.2) else (some false)) else (if x7_20.toList = ([] : List UInt8) then (some false) else (bywashlaw13_BufferPlays.l0 kj20 a0 x7_20 x8_20 l1 (l1.length : Int) (wrap64 (x62_2 + 1)) bt202.2.1 bt202.2.2.1 bt202.2.2.2)))) else (some false)) else (if x8_20 = true then (some false) else ((buffer_Buffer_Done.f bt198.2.1 bt198.2.2.1 bt198.2.2.2).bind fun bt206 => (if bt206.1 = true then (some false) else (bywashlaw13_BufferPlays.l0 kj20 a0 x7_20 x8_20 l1 (l1.length : Int) (wrap64 (x62_2 + 1)) bt206.2.1 bt206.2.2.1 bt206.2.2.2)))))) else (some false)) = some r := H
                          have A84 := Aside0.mk A840
                          clear A840
                          by_cases c85 : t194 = (x7_20.size : Int)
                          · rw [if_pos c85] at H
                            have c85b0 : (t194 == (x7_20.size : Int)) = true := beq_iff_eq.mpr c85
                            have c85b1 : (t194 != (x7_20.size : Int)) = false := bne_eq_false_iff_eq.mpr c85
                            clear c85
                            replace H := Option.bind_eq_some_iff.mp H
                            obtain ⟨⟨t198, t199, t200, t201⟩, A860, H⟩ := H
                            replace H : (if t198 = true then (if x8_20 = true then ((buffer_Buffer_Done.f t199 t200 t201).bind fun bt202 => (if bt202.1 = true then (if x7_20.toList = ([] : List UInt8) then (bywashlaw13_BufferPlays.l0 kj20 a0 x7_20 x8_20 l1 (l1.length : Int) (wrap64 (x62_2 + 1)) bt202.2.1 bt202.2.2.1 bt202.2.2.2) else (some false)) else (if x7_20.toList = ([] : List UInt8) then (some false) else (bywashlaw13_BufferPlays.l0 kj20 a0 x7_20 x8_20 l1 (l1.length : Int) (wrap64 (x62_2 + 1)) bt202.2.1 bt202.2.2.1 bt202.2.2.2)))) else (some false)) else (if x8_20 = true then (some false) else ((buffer_Buffer_Done.f t199 t200 t201).bind fun bt206 => (if bt206.1 = true then (some false) else (bywashlaw13_BufferPlays.l0 kj20 a0 x7_20 x8_20 l1 (l1.length : Int) (wrap64 (x62_2 + 1)) bt206.2.1 bt206.2.2.1 bt206.2.2.2))))) = some r := H
                            have A86 := Aside0.mk A860
                            clear A860
                            by_cases c87 : t198 = true
                            · subst c87
                              have H1 : (if x8_20 = true then ((buffer_Buffer_Done.f t199 t200 t201).bind fun bt202 => (if bt202.1 = true then (if x7_20.toList = ([] : List UInt8) then (bywashlaw13_BufferPlays.l0 kj20 a0 x7_20 x8_20 l1 (l1.length : Int) (wrap64 (x62_2 + 1)) bt202.2.1 bt202.2.2.1 bt202.2.2.2) else (some false)) else (if x7_20.toList = ([] : List UInt8) then (some false) else (bywashlaw13_BufferPlays.l0 kj20 a0 x7_20 x8_20 l1 (l1.length : Int) (wrap64 (x62_2 + 1)) bt202.2.1 bt202.2.2.1 bt202.2.2.2)))) else (some false)) = some r := by rw [if_pos rfl] at H; exact H
                              clear H
                              have H := H1
                              clear H1
                              by_cases c88 : x8_20 = true
                              · subst c88
                                have H1 : ((buffer_Buffer_Done.f t199 t200 t201).bind fun bt202 => (if bt202.1 = true then (if x7_20.toList = ([] : List UInt8) then (bywashlaw13_BufferPlays.l0 kj20 a0 x7_20 true l1 (l1.length : Int) (wrap64 (x62_2 + 1)) bt202.2.1 bt202.2.2.1 bt202.2.2.2) else (some false)) else (if x7_20.toList = ([] : List UInt8) then (some false) else (bywashlaw13_BufferPlays.l0 kj20 a0 x7_20 true l1 (l1.length : Int) (wrap64 (x62_2 + 1)) bt202.2.1 bt202.2.2.1 bt202.2.2.2)))) = some r := by rw [if_pos rfl] at H; exact H
                                clear H
                                have H := H1
                                clear H1
                                replace H := Option.bind_eq_some_iff.mp H
                                obtain ⟨⟨t202, t203, t204, t205⟩, A890, H⟩ := H
                                replace H : (if t202 = true then (if x7_20.toList = ([] : List UInt8) then (bywashlaw13_BufferPlays.l0 kj20 a0 x7_20 true l1 (l1.length : Int) (wrap64 (x62_2 + 1)) t203 t204 t205) else (some false)) else (if x7_20.toList = ([] : List UInt8) then (some false) else (bywashlaw13_BufferPlays.l0 kj20 a0 x7_20 true l1 (l1.length : Int) (wrap64 (x62_2 + 1)) t203 t204 t205))) = some r := H
                                have A89 := Aside0.mk A890
                                clear A890
                                by_cases c90 : t202 = true
                                · subst c90
                                  have H1 : (if x7_20.toList = ([] : List UInt8) then (bywashlaw13_BufferPlays.l0 kj20 a0 x7_20 true l1 (l1.length : Int) (wrap64 (x62_2 + 1)) t203 t204 t205) else (some false)) = some r := by rw [if_pos rfl] at H; exact H
                                  clear H
                                  have H := H1
                                  clear H1
                                  by_cases c91 : x7_20.toList = ([] : List UInt8)
                                  · rw [if_pos c91] at H
                                    have c91b0 : (x7_20.toList == ([] : List UInt8)) = true := beq_iff_eq.mpr c91
                                    have c91b1 : (x7_20.toList != ([] : List UInt8)) = false := bne_eq_false_iff_eq.mpr c91
                                    clear c91
                                    have H' := Aside0.mk H
                                    clear H
                                    go_wp2_with (first | ((with_reducible refine gate_callee (f := 11) rfl ?_); refine goesL_ (some 137) rfl rfl Try.func11 (by kernel_rfl) rfl #[.pointer (some ⟨g175, 0, none⟩)] rfl (by (try simp only [List.map_toArray, List.map_cons, List.map_nil]); first | done | rfl | (simp only [List.length_drop, List.length_take]; rfl)) ?_; (with_reducible refine (buffer_Buffer_Len.calls g175 x176000_20 x176001_20 x176002_20 t194 t195 t196 t197 w _ ?side1 ?side2 A84.out).mono ?_); (case side1 => repeat (first | (with_reducible first | exact HI175.out | apply IsS38.alloc | apply IsS38.drewN | apply IsS38.drew | apply IsS38.set_0 | apply IsS38.set_1 | apply IsS38.set_2 | refine IsS38.far ?_ NB175_177.out _) | exact HI175.out)); (case side2 => repeat (first | (with_reducible first | exact HB.out | apply below_alloc | apply pw_below_drewN | apply below_drew1 | refine below_set ?_ (IsS38.ge HI175.out) | refine below_set ?_ GE177.out) | exact HB.out)); rintro e w92 ⟨rfl, hi, hb, hk⟩; refine ⟨_, rfl, ?_⟩; have n0_ := Aside0.mk (KeepBut.blk hk (g' := gb177) (o := .cells #[.int .i64 ((rd_T33 l1 x62_2).f0), .int .i64 ((rd_T33 l1 x62_2).f1), .string ((rd_T33 l1 x62_2).f2)] 33 (0, 0)) (by (with_reducible repeat (first | refine blk_drewN ?_ _ | refine blk_drew ?_ | refine blk_alloc ?_ _)); exact BK177.out) NB177_175.out (by simp)); have n1_ := Aside0.mk (hb); have n2_ := Aside0.mk (hi); clear BK177; clear HB; clear HI175; have BK177 := n0_; have HB := n1_; have HI175 := n2_; clear n0_ n1_ n2_; (try clear hb); (try clear hb2); (try clear hk); (try clear hi)) | (go_at_call 14; (with_reducible refine (buffer_Buffer_Ended.calls g175 t195 t196 t197 true t199 t200 t201 w _ ?side1 ?side2 A86.out).mono ?_); (case side1 => repeat (first | (with_reducible first | exact HI175.out | apply IsS38.alloc | apply IsS38.drewN | apply IsS38.drew | apply IsS38.set_0 | apply IsS38.set_1 | apply IsS38.set_2 | refine IsS38.far ?_ NB175_177.out _) | exact HI175.out)); (case side2 => repeat (first | (with_reducible first | exact HB.out | apply below_alloc | apply pw_below_drewN | apply below_drew1 | refine below_set ?_ (IsS38.ge HI175.out) | refine below_set ?_ GE177.out) | exact HB.out)); rintro e w93 ⟨rfl, hi, hb, hk⟩; have n0_ := Aside0.mk (KeepBut.blk hk (g' := gb177) (o := .cells #[.int .i64 ((rd_T33 l1 x62_2).f0), .int .i64 ((rd_T33 l1 x62_2).f1), .string ((rd_T33 l1 x62_2).f2)] 33 (0, 0)) (by (with_reducible repeat (first | refine blk_drewN ?_ _ | refine blk_drew ?_ | refine blk_alloc ?_ _)); exact BK177.out) NB177_175.out (by simp)); have n1_ := Aside0.mk (hb); have n2_ := Aside0.mk (hi); clear BK177; clear HB; clear HI175; have BK177 := n0_; have HB := n1_; have HI175 := n2_; clear n0_ n1_ n2_; (try clear hb); (try clear hb2); (try clear hk); (try clear hi)) | (go_at_call 15; (with_reducible refine (buffer_Buffer_Done.calls g175 t199 t200 t201 true t203 t204 t205 w _ ?side1 ?side2 A89.out).mono ?_); (case side1 => repeat (first | (with_reducible first | exact HI175.out | apply IsS38.alloc | apply IsS38.drewN | apply IsS38.drew | apply IsS38.set_0 | apply IsS38.set_1 | apply IsS38.set_2 | refine IsS38.far ?_ NB175_177.out _) | exact HI175.out)); (case side2 => repeat (first | (with_reducible first | exact HB.out | apply below_alloc | apply pw_below_drewN | apply below_drew1 | refine below_set ?_ (IsS38.ge HI175.out) | refine below_set ?_ GE177.out) | exact HB.out)); rintro e w94 ⟨rfl, hi, hb, hk⟩; have n0_ := Aside0.mk (KeepBut.blk hk (g' := gb177) (o := .cells #[.int .i64 ((rd_T33 l1 x62_2).f0), .int .i64 ((rd_T33 l1 x62_2).f1), .string ((rd_T33 l1 x62_2).f2)] 33 (0, 0)) (by (with_reducible repeat (first | refine blk_drewN ?_ _ | refine blk_drew ?_ | refine blk_alloc ?_ _)); exact BK177.out) NB177_175.out (by simp)); have n1_ := Aside0.mk (hb); have n2_ := Aside0.mk (hi); clear BK177; clear HB; clear HI175; have BK177 := n0_; have HB := n1_; have HI175 := n2_; clear n0_ n1_ n2_; (try clear hb); (try clear hb2); (try clear hk); (try clear hi)))
                                    go_roundg kj20
                                    case measure => have := HJ2.out; have := HK2.out; have := HJ20.out; omega
                                    case rel => exact ⟨(x7_20), (true), (wrap64 (x62_2 + 1)), (t203), (t204), (t205), (by first | rfl | (simp; done) | (simp [*]; done)), (by first | rfl | (simp; done) | (simp [*]; done)), (by first | rfl | (simp; done) | (simp [*]; done)), H', ⟨by have := HJ2.out; have := HK2.out; have := HJ20.out; omega⟩, ⟨by repeat (first | (with_reducible first | exact HI175.out | apply IsS38.alloc | apply IsS38.drewN | apply IsS38.drew | apply IsS38.set_0 | apply IsS38.set_1 | apply IsS38.set_2 | refine IsS38.far ?_ NB175_177.out _) | exact HI175.out)⟩, ⟨by repeat (first | (with_reducible first | exact HB.out | apply below_alloc | apply pw_below_drewN | apply below_drew1 | refine below_set ?_ (IsS38.ge HI175.out) | refine below_set ?_ GE177.out) | exact HB.out)⟩⟩
                                  · rw [if_neg c91] at H
                                    have c91b0 : (x7_20.toList == ([] : List UInt8)) = false := beq_eq_false_iff_ne.mpr c91
                                    have c91b1 : (x7_20.toList != ([] : List UInt8)) = true := bne_iff_ne.mpr c91
                                    obtain rfl := Option.some.inj H
                                    go_wp2_with (first | ((with_reducible refine gate_callee (f := 11) rfl ?_); refine goesL_ (some 137) rfl rfl Try.func11 (by kernel_rfl) rfl #[.pointer (some ⟨g175, 0, none⟩)] rfl (by (try simp only [List.map_toArray, List.map_cons, List.map_nil]); first | done | rfl | (simp only [List.length_drop, List.length_take]; rfl)) ?_; (with_reducible refine (buffer_Buffer_Len.calls g175 x176000_20 x176001_20 x176002_20 t194 t195 t196 t197 w _ ?side1 ?side2 A84.out).mono ?_); (case side1 => repeat (first | (with_reducible first | exact HI175.out | apply IsS38.alloc | apply IsS38.drewN | apply IsS38.drew | apply IsS38.set_0 | apply IsS38.set_1 | apply IsS38.set_2 | refine IsS38.far ?_ NB175_177.out _) | exact HI175.out)); (case side2 => repeat (first | (with_reducible first | exact HB.out | apply below_alloc | apply pw_below_drewN | apply below_drew1 | refine below_set ?_ (IsS38.ge HI175.out) | refine below_set ?_ GE177.out) | exact HB.out)); rintro e w95 ⟨rfl, hi, hb, hk⟩; refine ⟨_, rfl, ?_⟩; have n0_ := Aside0.mk (KeepBut.blk hk (g' := gb177) (o := .cells #[.int .i64 ((rd_T33 l1 x62_2).f0), .int .i64 ((rd_T33 l1 x62_2).f1), .string ((rd_T33 l1 x62_2).f2)] 33 (0, 0)) (by (with_reducible repeat (first | refine blk_drewN ?_ _ | refine blk_drew ?_ | refine blk_alloc ?_ _)); exact BK177.out) NB177_175.out (by simp)); have n1_ := Aside0.mk (hb); have n2_ := Aside0.mk (hi); clear BK177; clear HB; clear HI175; have BK177 := n0_; have HB := n1_; have HI175 := n2_; clear n0_ n1_ n2_; (try clear hb); (try clear hb2); (try clear hk); (try clear hi)) | (go_at_call 14; (with_reducible refine (buffer_Buffer_Ended.calls g175 t195 t196 t197 true t199 t200 t201 w _ ?side1 ?side2 A86.out).mono ?_); (case side1 => repeat (first | (with_reducible first | exact HI175.out | apply IsS38.alloc | apply IsS38.drewN | apply IsS38.drew | apply IsS38.set_0 | apply IsS38.set_1 | apply IsS38.set_2 | refine IsS38.far ?_ NB175_177.out _) | exact HI175.out)); (case side2 => repeat (first | (with_reducible first | exact HB.out | apply below_alloc | apply pw_below_drewN | apply below_drew1 | refine below_set ?_ (IsS38.ge HI175.out) | refine below_set ?_ GE177.out) | exact HB.out)); rintro e w96 ⟨rfl, hi, hb, hk⟩; have n0_ := Aside0.mk (KeepBut.blk hk (g' := gb177) (o := .cells #[.int .i64 ((rd_T33 l1 x62_2).f0), .int .i64 ((rd_T33 l1 x62_2).f1), .string ((rd_T33 l1 x62_2).f2)] 33 (0, 0)) (by (with_reducible repeat (first | refine blk_drewN ?_ _ | refine blk_drew ?_ | refine blk_alloc ?_ _)); exact BK177.out) NB177_175.out (by simp)); have n1_ := Aside0.mk (hb); have n2_ := Aside0.mk (hi); clear BK177; clear HB; clear HI175; have BK177 := n0_; have HB := n1_; have HI175 := n2_; clear n0_ n1_ n2_; (try clear hb); (try clear hb2); (try clear hk); (try clear hi)) | (go_at_call 15; (with_reducible refine (buffer_Buffer_Done.calls g175 t199 t200 t201 true t203 t204 t205 w _ ?side1 ?side2 A89.out).mono ?_); (case side1 => repeat (first | (with_reducible first | exact HI175.out | apply IsS38.alloc | apply IsS38.drewN | apply IsS38.drew | apply IsS38.set_0 | apply IsS38.set_1 | apply IsS38.set_2 | refine IsS38.far ?_ NB175_177.out _) | exact HI175.out)); (case side2 => repeat (first | (with_reducible first | exact HB.out | apply below_alloc | apply pw_below_drewN | apply below_drew1 | refine below_set ?_ (IsS38.ge HI175.out) | refine below_set ?_ GE177.out) | exact HB.out)); rintro e w97 ⟨rfl, hi, hb, hk⟩; have n0_ := Aside0.mk (KeepBut.blk hk (g' := gb177) (o := .cells #[.int .i64 ((rd_T33 l1 x62_2).f0), .int .i64 ((rd_T33 l1 x62_2).f1), .string ((rd_T33 l1 x62_2).f2)] 33 (0, 0)) (by (with_reducible repeat (first | refine blk_drewN ?_ _ | refine blk_drew ?_ | refine blk_alloc ?_ _)); exact BK177.out) NB177_175.out (by simp)); have n1_ := Aside0.mk (hb); have n2_ := Aside0.mk (hi); clear BK177; clear HB; clear HI175; have BK177 := n0_; have HB := n1_; have HI175 := n2_; clear n0_ n1_ n2_; (try clear hb); (try clear hb2); (try clear hk); (try clear hi)))
                                    go_ret
                                    exact ⟨by first | rfl | (simp [errW_none, errW_some] <;> rfl) | (simp [*, errW_none, errW_some] <;> rfl), by repeat (first | (with_reducible first | exact HB.out | apply below_alloc | apply pw_below_drewN | apply below_drew1 | refine below_set ?_ (IsS38.ge HI175.out) | refine below_set ?_ GE177.out) | exact HB.out)⟩
                                · replace c90 := Bool.eq_false_iff.mpr c90
                                  subst c90
                                  have H1 : (if x7_20.toList = ([] : List UInt8) then (some false) else (bywashlaw13_BufferPlays.l0 kj20 a0 x7_20 true l1 (l1.length : Int) (wrap64 (x62_2 + 1)) t203 t204 t205)) = some r := by rw [if_neg (show ¬ (false = true) by decide)] at H; exact H
                                  clear H
                                  have H := H1
                                  clear H1
                                  by_cases c98 : x7_20.toList = ([] : List UInt8)
                                  · rw [if_pos c98] at H
                                    have c98b0 : (x7_20.toList == ([] : List UInt8)) = true := beq_iff_eq.mpr c98
                                    have c98b1 : (x7_20.toList != ([] : List UInt8)) = false := bne_eq_false_iff_eq.mpr c98
                                    clear c98
                                    obtain rfl := Option.some.inj H
                                    go_wp2_with (first | ((with_reducible refine gate_callee (f := 11) rfl ?_); refine goesL_ (some 137) rfl rfl Try.func11 (by kernel_rfl) rfl #[.pointer (some ⟨g175, 0, none⟩)] rfl (by (try simp only [List.map_toArray, List.map_cons, List.map_nil]); first | done | rfl | (simp only [List.length_drop, List.length_take]; rfl)) ?_; (with_reducible refine (buffer_Buffer_Len.calls g175 x176000_20 x176001_20 x176002_20 t194 t195 t196 t197 w _ ?side1 ?side2 A84.out).mono ?_); (case side1 => repeat (first | (with_reducible first | exact HI175.out | apply IsS38.alloc | apply IsS38.drewN | apply IsS38.drew | apply IsS38.set_0 | apply IsS38.set_1 | apply IsS38.set_2 | refine IsS38.far ?_ NB175_177.out _) | exact HI175.out)); (case side2 => repeat (first | (with_reducible first | exact HB.out | apply below_alloc | apply pw_below_drewN | apply below_drew1 | refine below_set ?_ (IsS38.ge HI175.out) | refine below_set ?_ GE177.out) | exact HB.out)); rintro e w99 ⟨rfl, hi, hb, hk⟩; refine ⟨_, rfl, ?_⟩; have n0_ := Aside0.mk (KeepBut.blk hk (g' := gb177) (o := .cells #[.int .i64 ((rd_T33 l1 x62_2).f0), .int .i64 ((rd_T33 l1 x62_2).f1), .string ((rd_T33 l1 x62_2).f2)] 33 (0, 0)) (by (with_reducible repeat (first | refine blk_drewN ?_ _ | refine blk_drew ?_ | refine blk_alloc ?_ _)); exact BK177.out) NB177_175.out (by simp)); have n1_ := Aside0.mk (hb); have n2_ := Aside0.mk (hi); clear BK177; clear HB; clear HI175; have BK177 := n0_; have HB := n1_; have HI175 := n2_; clear n0_ n1_ n2_; (try clear hb); (try clear hb2); (try clear hk); (try clear hi)) | (go_at_call 14; (with_reducible refine (buffer_Buffer_Ended.calls g175 t195 t196 t197 true t199 t200 t201 w _ ?side1 ?side2 A86.out).mono ?_); (case side1 => repeat (first | (with_reducible first | exact HI175.out | apply IsS38.alloc | apply IsS38.drewN | apply IsS38.drew | apply IsS38.set_0 | apply IsS38.set_1 | apply IsS38.set_2 | refine IsS38.far ?_ NB175_177.out _) | exact HI175.out)); (case side2 => repeat (first | (with_reducible first | exact HB.out | apply below_alloc | apply pw_below_drewN | apply below_drew1 | refine below_set ?_ (IsS38.ge HI175.out) | refine below_set ?_ GE177.out) | exact HB.out)); rintro e w100 ⟨rfl, hi, hb, hk⟩; have n0_ := Aside0.mk (KeepBut.blk hk (g' := gb177) (o := .cells #[.int .i64 ((rd_T33 l1 x62_2).f0), .int .i64 ((rd_T33 l1 x62_2).f1), .string ((rd_T33 l1 x62_2).f2)] 33 (0, 0)) (by (with_reducible repeat (first | refine blk_drewN ?_ _ | refine blk_drew ?_ | refine blk_alloc ?_ _)); exact BK177.out) NB177_175.out (by simp)); have n1_ := Aside0.mk (hb); have n2_ := Aside0.mk (hi); clear BK177; clear HB; clear HI175; have BK177 := n0_; have HB := n1_; have HI175 := n2_; clear n0_ n1_ n2_; (try clear hb); (try clear hb2); (try clear hk); (try clear hi)) | (go_at_call 15; (with_reducible refine (buffer_Buffer_Done.calls g175 t199 t200 t201 false t203 t204 t205 w _ ?side1 ?side2 A89.out).mono ?_); (case side1 => repeat (first | (with_reducible first | exact HI175.out | apply IsS38.alloc | apply IsS38.drewN | apply IsS38.drew | apply IsS38.set_0 | apply IsS38.set_1 | apply IsS38.set_2 | refine IsS38.far ?_ NB175_177.out _) | exact HI175.out)); (case side2 => repeat (first | (with_reducible first | exact HB.out | apply below_alloc | apply pw_below_drewN | apply below_drew1 | refine below_set ?_ (IsS38.ge HI175.out) | refine below_set ?_ GE177.out) | exact HB.out)); rintro e w101 ⟨rfl, hi, hb, hk⟩; have n0_ := Aside0.mk (KeepBut.blk hk (g' := gb177) (o := .cells #[.int .i64 ((rd_T33 l1 x62_2).f0), .int .i64 ((rd_T33 l1 x62_2).f1), .string ((rd_T33 l1 x62_2).f2)] 33 (0, 0)) (by (with_reducible repeat (first | refine blk_drewN ?_ _ | refine blk_drew ?_ | refine blk_alloc ?_ _)); exact BK177.out) NB177_175.out (by simp)); have n1_ := Aside0.mk (hb); have n2_ := Aside0.mk (hi); clear BK177; clear HB; clear HI175; have BK177 := n0_; have HB := n1_; have HI175 := n2_; clear n0_ n1_ n2_; (try clear hb); (try clear hb2); (try clear hk); (try clear hi)))
                                    go_ret
                                    exact ⟨by first | rfl | (simp [errW_none, errW_some] <;> rfl) | (simp [*, errW_none, errW_some] <;> rfl), by repeat (first | (with_reducible first | exact HB.out | apply below_alloc | apply pw_below_drewN | apply below_drew1 | refine below_set ?_ (IsS38.ge HI175.out) | refine below_set ?_ GE177.out) | exact HB.out)⟩
                                  · rw [if_neg c98] at H
                                    have c98b0 : (x7_20.toList == ([] : List UInt8)) = false := beq_eq_false_iff_ne.mpr c98
                                    have c98b1 : (x7_20.toList != ([] : List UInt8)) = true := bne_iff_ne.mpr c98
                                    have H' := Aside0.mk H
                                    clear H
                                    go_wp2_with (first | ((with_reducible refine gate_callee (f := 11) rfl ?_); refine goesL_ (some 137) rfl rfl Try.func11 (by kernel_rfl) rfl #[.pointer (some ⟨g175, 0, none⟩)] rfl (by (try simp only [List.map_toArray, List.map_cons, List.map_nil]); first | done | rfl | (simp only [List.length_drop, List.length_take]; rfl)) ?_; (with_reducible refine (buffer_Buffer_Len.calls g175 x176000_20 x176001_20 x176002_20 t194 t195 t196 t197 w _ ?side1 ?side2 A84.out).mono ?_); (case side1 => repeat (first | (with_reducible first | exact HI175.out | apply IsS38.alloc | apply IsS38.drewN | apply IsS38.drew | apply IsS38.set_0 | apply IsS38.set_1 | apply IsS38.set_2 | refine IsS38.far ?_ NB175_177.out _) | exact HI175.out)); (case side2 => repeat (first | (with_reducible first | exact HB.out | apply below_alloc | apply pw_below_drewN | apply below_drew1 | refine below_set ?_ (IsS38.ge HI175.out) | refine below_set ?_ GE177.out) | exact HB.out)); rintro e w102 ⟨rfl, hi, hb, hk⟩; refine ⟨_, rfl, ?_⟩; have n0_ := Aside0.mk (KeepBut.blk hk (g' := gb177) (o := .cells #[.int .i64 ((rd_T33 l1 x62_2).f0), .int .i64 ((rd_T33 l1 x62_2).f1), .string ((rd_T33 l1 x62_2).f2)] 33 (0, 0)) (by (with_reducible repeat (first | refine blk_drewN ?_ _ | refine blk_drew ?_ | refine blk_alloc ?_ _)); exact BK177.out) NB177_175.out (by simp)); have n1_ := Aside0.mk (hb); have n2_ := Aside0.mk (hi); clear BK177; clear HB; clear HI175; have BK177 := n0_; have HB := n1_; have HI175 := n2_; clear n0_ n1_ n2_; (try clear hb); (try clear hb2); (try clear hk); (try clear hi)) | (go_at_call 14; (with_reducible refine (buffer_Buffer_Ended.calls g175 t195 t196 t197 true t199 t200 t201 w _ ?side1 ?side2 A86.out).mono ?_); (case side1 => repeat (first | (with_reducible first | exact HI175.out | apply IsS38.alloc | apply IsS38.drewN | apply IsS38.drew | apply IsS38.set_0 | apply IsS38.set_1 | apply IsS38.set_2 | refine IsS38.far ?_ NB175_177.out _) | exact HI175.out)); (case side2 => repeat (first | (with_reducible first | exact HB.out | apply below_alloc | apply pw_below_drewN | apply below_drew1 | refine below_set ?_ (IsS38.ge HI175.out) | refine below_set ?_ GE177.out) | exact HB.out)); rintro e w103 ⟨rfl, hi, hb, hk⟩; have n0_ := Aside0.mk (KeepBut.blk hk (g' := gb177) (o := .cells #[.int .i64 ((rd_T33 l1 x62_2).f0), .int .i64 ((rd_T33 l1 x62_2).f1), .string ((rd_T33 l1 x62_2).f2)] 33 (0, 0)) (by (with_reducible repeat (first | refine blk_drewN ?_ _ | refine blk_drew ?_ | refine blk_alloc ?_ _)); exact BK177.out) NB177_175.out (by simp)); have n1_ := Aside0.mk (hb); have n2_ := Aside0.mk (hi); clear BK177; clear HB; clear HI175; have BK177 := n0_; have HB := n1_; have HI175 := n2_; clear n0_ n1_ n2_; (try clear hb); (try clear hb2); (try clear hk); (try clear hi)) | (go_at_call 15; (with_reducible refine (buffer_Buffer_Done.calls g175 t199 t200 t201 false t203 t204 t205 w _ ?side1 ?side2 A89.out).mono ?_); (case side1 => repeat (first | (with_reducible first | exact HI175.out | apply IsS38.alloc | apply IsS38.drewN | apply IsS38.drew | apply IsS38.set_0 | apply IsS38.set_1 | apply IsS38.set_2 | refine IsS38.far ?_ NB175_177.out _) | exact HI175.out)); (case side2 => repeat (first | (with_reducible first | exact HB.out | apply below_alloc | apply pw_below_drewN | apply below_drew1 | refine below_set ?_ (IsS38.ge HI175.out) | refine below_set ?_ GE177.out) | exact HB.out)); rintro e w104 ⟨rfl, hi, hb, hk⟩; have n0_ := Aside0.mk (KeepBut.blk hk (g' := gb177) (o := .cells #[.int .i64 ((rd_T33 l1 x62_2).f0), .int .i64 ((rd_T33 l1 x62_2).f1), .string ((rd_T33 l1 x62_2).f2)] 33 (0, 0)) (by (with_reducible repeat (first | refine blk_drewN ?_ _ | refine blk_drew ?_ | refine blk_alloc ?_ _)); exact BK177.out) NB177_175.out (by simp)); have n1_ := Aside0.mk (hb); have n2_ := Aside0.mk (hi); clear BK177; clear HB; clear HI175; have BK177 := n0_; have HB := n1_; have HI175 := n2_; clear n0_ n1_ n2_; (try clear hb); (try clear hb2); (try clear hk); (try clear hi)))
                                    go_roundg kj20
                                    case measure => have := HJ2.out; have := HK2.out; have := HJ20.out; omega
                                    case rel => exact ⟨(x7_20), (true), (wrap64 (x62_2 + 1)), (t203), (t204), (t205), (by first | rfl | (simp; done) | (simp [*]; done)), (by first | rfl | (simp; done) | (simp [*]; done)), (by first | rfl | (simp; done) | (simp [*]; done)), H', ⟨by have := HJ2.out; have := HK2.out; have := HJ20.out; omega⟩, ⟨by repeat (first | (with_reducible first | exact HI175.out | apply IsS38.alloc | apply IsS38.drewN | apply IsS38.drew | apply IsS38.set_0 | apply IsS38.set_1 | apply IsS38.set_2 | refine IsS38.far ?_ NB175_177.out _) | exact HI175.out)⟩, ⟨by repeat (first | (with_reducible first | exact HB.out | apply below_alloc | apply pw_below_drewN | apply below_drew1 | refine below_set ?_ (IsS38.ge HI175.out) | refine below_set ?_ GE177.out) | exact HB.out)⟩⟩
                              · replace c88 := Bool.eq_false_iff.mpr c88
                                subst c88
                                have H1 : (some false) = some r := by rw [if_neg (show ¬ (false = true) by decide)] at H; exact H
                                clear H
                                have H := H1
                                clear H1
                                obtain rfl := Option.some.inj H
                                go_wp2_with (first | ((with_reducible refine gate_callee (f := 11) rfl ?_); refine goesL_ (some 137) rfl rfl Try.func11 (by kernel_rfl) rfl #[.pointer (some ⟨g175, 0, none⟩)] rfl (by (try simp only [List.map_toArray, List.map_cons, List.map_nil]); first | done | rfl | (simp only [List.length_drop, List.length_take]; rfl)) ?_; (with_reducible refine (buffer_Buffer_Len.calls g175 x176000_20 x176001_20 x176002_20 t194 t195 t196 t197 w _ ?side1 ?side2 A84.out).mono ?_); (case side1 => repeat (first | (with_reducible first | exact HI175.out | apply IsS38.alloc | apply IsS38.drewN | apply IsS38.drew | apply IsS38.set_0 | apply IsS38.set_1 | apply IsS38.set_2 | refine IsS38.far ?_ NB175_177.out _) | exact HI175.out)); (case side2 => repeat (first | (with_reducible first | exact HB.out | apply below_alloc | apply pw_below_drewN | apply below_drew1 | refine below_set ?_ (IsS38.ge HI175.out) | refine below_set ?_ GE177.out) | exact HB.out)); rintro e w105 ⟨rfl, hi, hb, hk⟩; refine ⟨_, rfl, ?_⟩; have n0_ := Aside0.mk (KeepBut.blk hk (g' := gb177) (o := .cells #[.int .i64 ((rd_T33 l1 x62_2).f0), .int .i64 ((rd_T33 l1 x62_2).f1), .string ((rd_T33 l1 x62_2).f2)] 33 (0, 0)) (by (with_reducible repeat (first | refine blk_drewN ?_ _ | refine blk_drew ?_ | refine blk_alloc ?_ _)); exact BK177.out) NB177_175.out (by simp)); have n1_ := Aside0.mk (hb); have n2_ := Aside0.mk (hi); clear BK177; clear HB; clear HI175; have BK177 := n0_; have HB := n1_; have HI175 := n2_; clear n0_ n1_ n2_; (try clear hb); (try clear hb2); (try clear hk); (try clear hi)) | (go_at_call 14; (with_reducible refine (buffer_Buffer_Ended.calls g175 t195 t196 t197 true t199 t200 t201 w _ ?side1 ?side2 A86.out).mono ?_); (case side1 => repeat (first | (with_reducible first | exact HI175.out | apply IsS38.alloc | apply IsS38.drewN | apply IsS38.drew | apply IsS38.set_0 | apply IsS38.set_1 | apply IsS38.set_2 | refine IsS38.far ?_ NB175_177.out _) | exact HI175.out)); (case side2 => repeat (first | (with_reducible first | exact HB.out | apply below_alloc | apply pw_below_drewN | apply below_drew1 | refine below_set ?_ (IsS38.ge HI175.out) | refine below_set ?_ GE177.out) | exact HB.out)); rintro e w106 ⟨rfl, hi, hb, hk⟩; have n0_ := Aside0.mk (KeepBut.blk hk (g' := gb177) (o := .cells #[.int .i64 ((rd_T33 l1 x62_2).f0), .int .i64 ((rd_T33 l1 x62_2).f1), .string ((rd_T33 l1 x62_2).f2)] 33 (0, 0)) (by (with_reducible repeat (first | refine blk_drewN ?_ _ | refine blk_drew ?_ | refine blk_alloc ?_ _)); exact BK177.out) NB177_175.out (by simp)); have n1_ := Aside0.mk (hb); have n2_ := Aside0.mk (hi); clear BK177; clear HB; clear HI175; have BK177 := n0_; have HB := n1_; have HI175 := n2_; clear n0_ n1_ n2_; (try clear hb); (try clear hb2); (try clear hk); (try clear hi)))
                                go_ret
                                exact ⟨by first | rfl | (simp [errW_none, errW_some] <;> rfl) | (simp [*, errW_none, errW_some] <;> rfl), by repeat (first | (with_reducible first | exact HB.out | apply below_alloc | apply pw_below_drewN | apply below_drew1 | refine below_set ?_ (IsS38.ge HI175.out) | refine below_set ?_ GE177.out) | exact HB.out)⟩
                            · replace c87 := Bool.eq_false_iff.mpr c87
                              subst c87
                              have H1 : (if x8_20 = true then (some false) else ((buffer_Buffer_Done.f t199 t200 t201).bind fun bt206 => (if bt206.1 = true then (some false) else (bywashlaw13_BufferPlays.l0 kj20 a0 x7_20 x8_20 l1 (l1.length : Int) (wrap64 (x62_2 + 1)) bt206.2.1 bt206.2.2.1 bt206.2.2.2)))) = some r := by rw [if_neg (show ¬ (false = true) by decide)] at H; exact H
                              clear H
                              have H := H1
                              clear H1
                              by_cases c107 : x8_20 = true
                              · subst c107
                                have H1 : (some false) = some r := by rw [if_pos rfl] at H; exact H
                                clear H
                                have H := H1
                                clear H1
                                obtain rfl := Option.some.inj H
                                go_wp2_with (first | ((with_reducible refine gate_callee (f := 11) rfl ?_); refine goesL_ (some 137) rfl rfl Try.func11 (by kernel_rfl) rfl #[.pointer (some ⟨g175, 0, none⟩)] rfl (by (try simp only [List.map_toArray, List.map_cons, List.map_nil]); first | done | rfl | (simp only [List.length_drop, List.length_take]; rfl)) ?_; (with_reducible refine (buffer_Buffer_Len.calls g175 x176000_20 x176001_20 x176002_20 t194 t195 t196 t197 w _ ?side1 ?side2 A84.out).mono ?_); (case side1 => repeat (first | (with_reducible first | exact HI175.out | apply IsS38.alloc | apply IsS38.drewN | apply IsS38.drew | apply IsS38.set_0 | apply IsS38.set_1 | apply IsS38.set_2 | refine IsS38.far ?_ NB175_177.out _) | exact HI175.out)); (case side2 => repeat (first | (with_reducible first | exact HB.out | apply below_alloc | apply pw_below_drewN | apply below_drew1 | refine below_set ?_ (IsS38.ge HI175.out) | refine below_set ?_ GE177.out) | exact HB.out)); rintro e w108 ⟨rfl, hi, hb, hk⟩; refine ⟨_, rfl, ?_⟩; have n0_ := Aside0.mk (KeepBut.blk hk (g' := gb177) (o := .cells #[.int .i64 ((rd_T33 l1 x62_2).f0), .int .i64 ((rd_T33 l1 x62_2).f1), .string ((rd_T33 l1 x62_2).f2)] 33 (0, 0)) (by (with_reducible repeat (first | refine blk_drewN ?_ _ | refine blk_drew ?_ | refine blk_alloc ?_ _)); exact BK177.out) NB177_175.out (by simp)); have n1_ := Aside0.mk (hb); have n2_ := Aside0.mk (hi); clear BK177; clear HB; clear HI175; have BK177 := n0_; have HB := n1_; have HI175 := n2_; clear n0_ n1_ n2_; (try clear hb); (try clear hb2); (try clear hk); (try clear hi)) | (go_at_call 14; (with_reducible refine (buffer_Buffer_Ended.calls g175 t195 t196 t197 false t199 t200 t201 w _ ?side1 ?side2 A86.out).mono ?_); (case side1 => repeat (first | (with_reducible first | exact HI175.out | apply IsS38.alloc | apply IsS38.drewN | apply IsS38.drew | apply IsS38.set_0 | apply IsS38.set_1 | apply IsS38.set_2 | refine IsS38.far ?_ NB175_177.out _) | exact HI175.out)); (case side2 => repeat (first | (with_reducible first | exact HB.out | apply below_alloc | apply pw_below_drewN | apply below_drew1 | refine below_set ?_ (IsS38.ge HI175.out) | refine below_set ?_ GE177.out) | exact HB.out)); rintro e w109 ⟨rfl, hi, hb, hk⟩; have n0_ := Aside0.mk (KeepBut.blk hk (g' := gb177) (o := .cells #[.int .i64 ((rd_T33 l1 x62_2).f0), .int .i64 ((rd_T33 l1 x62_2).f1), .string ((rd_T33 l1 x62_2).f2)] 33 (0, 0)) (by (with_reducible repeat (first | refine blk_drewN ?_ _ | refine blk_drew ?_ | refine blk_alloc ?_ _)); exact BK177.out) NB177_175.out (by simp)); have n1_ := Aside0.mk (hb); have n2_ := Aside0.mk (hi); clear BK177; clear HB; clear HI175; have BK177 := n0_; have HB := n1_; have HI175 := n2_; clear n0_ n1_ n2_; (try clear hb); (try clear hb2); (try clear hk); (try clear hi)))
                                go_ret
                                exact ⟨by first | rfl | (simp [errW_none, errW_some] <;> rfl) | (simp [*, errW_none, errW_some] <;> rfl), by repeat (first | (with_reducible first | exact HB.out | apply below_alloc | apply pw_below_drewN | apply below_drew1 | refine below_set ?_ (IsS38.ge HI175.out) | refine below_set ?_ GE177.out) | exact HB.out)⟩
                              · replace c107 := Bool.eq_false_iff.mpr c107
                                subst c107
                                have H1 : ((buffer_Buffer_Done.f t199 t200 t201).bind fun bt206 => (if bt206.1 = true then (some false) else (bywashlaw13_BufferPlays.l0 kj20 a0 x7_20 false l1 (l1.length : Int) (wrap64 (x62_2 + 1)) bt206.2.1 bt206.2.2.1 bt206.2.2.2))) = some r := by rw [if_neg (show ¬ (false = true) by decide)] at H; exact H
                                clear H
                                have H := H1
                                clear H1
                                replace H := Option.bind_eq_some_iff.mp H
                                obtain ⟨⟨t206, t207, t208, t209⟩, A1100, H⟩ := H
                                replace H : (if t206 = true then (some false) else (bywashlaw13_BufferPlays.l0 kj20 a0 x7_20 false l1 (l1.length : Int) (wrap64 (x62_2 + 1)) t207 t208 t209)) = some r := H
                                have A110 := Aside0.mk A1100
                                clear A1100
                                by_cases c111 : t206 = true
                                · subst c111
                                  have H1 : (some false) = some r := by rw [if_pos rfl] at H; exact H
                                  clear H
                                  have H := H1
                                  clear H1
                                  obtain rfl := Option.some.inj H
                                  go_wp2_with (first | ((with_reducible refine gate_callee (f := 11) rfl ?_); refine goesL_ (some 137) rfl rfl Try.func11 (by kernel_rfl) rfl #[.pointer (some ⟨g175, 0, none⟩)] rfl (by (try simp only [List.map_toArray, List.map_cons, List.map_nil]); first | done | rfl | (simp only [List.length_drop, List.length_take]; rfl)) ?_; (with_reducible refine (buffer_Buffer_Len.calls g175 x176000_20 x176001_20 x176002_20 t194 t195 t196 t197 w _ ?side1 ?side2 A84.out).mono ?_); (case side1 => repeat (first | (with_reducible first | exact HI175.out | apply IsS38.alloc | apply IsS38.drewN | apply IsS38.drew | apply IsS38.set_0 | apply IsS38.set_1 | apply IsS38.set_2 | refine IsS38.far ?_ NB175_177.out _) | exact HI175.out)); (case side2 => repeat (first | (with_reducible first | exact HB.out | apply below_alloc | apply pw_below_drewN | apply below_drew1 | refine below_set ?_ (IsS38.ge HI175.out) | refine below_set ?_ GE177.out) | exact HB.out)); rintro e w112 ⟨rfl, hi, hb, hk⟩; refine ⟨_, rfl, ?_⟩; have n0_ := Aside0.mk (KeepBut.blk hk (g' := gb177) (o := .cells #[.int .i64 ((rd_T33 l1 x62_2).f0), .int .i64 ((rd_T33 l1 x62_2).f1), .string ((rd_T33 l1 x62_2).f2)] 33 (0, 0)) (by (with_reducible repeat (first | refine blk_drewN ?_ _ | refine blk_drew ?_ | refine blk_alloc ?_ _)); exact BK177.out) NB177_175.out (by simp)); have n1_ := Aside0.mk (hb); have n2_ := Aside0.mk (hi); clear BK177; clear HB; clear HI175; have BK177 := n0_; have HB := n1_; have HI175 := n2_; clear n0_ n1_ n2_; (try clear hb); (try clear hb2); (try clear hk); (try clear hi)) | (go_at_call 14; (with_reducible refine (buffer_Buffer_Ended.calls g175 t195 t196 t197 false t199 t200 t201 w _ ?side1 ?side2 A86.out).mono ?_); (case side1 => repeat (first | (with_reducible first | exact HI175.out | apply IsS38.alloc | apply IsS38.drewN | apply IsS38.drew | apply IsS38.set_0 | apply IsS38.set_1 | apply IsS38.set_2 | refine IsS38.far ?_ NB175_177.out _) | exact HI175.out)); (case side2 => repeat (first | (with_reducible first | exact HB.out | apply below_alloc | apply pw_below_drewN | apply below_drew1 | refine below_set ?_ (IsS38.ge HI175.out) | refine below_set ?_ GE177.out) | exact HB.out)); rintro e w113 ⟨rfl, hi, hb, hk⟩; have n0_ := Aside0.mk (KeepBut.blk hk (g' := gb177) (o := .cells #[.int .i64 ((rd_T33 l1 x62_2).f0), .int .i64 ((rd_T33 l1 x62_2).f1), .string ((rd_T33 l1 x62_2).f2)] 33 (0, 0)) (by (with_reducible repeat (first | refine blk_drewN ?_ _ | refine blk_drew ?_ | refine blk_alloc ?_ _)); exact BK177.out) NB177_175.out (by simp)); have n1_ := Aside0.mk (hb); have n2_ := Aside0.mk (hi); clear BK177; clear HB; clear HI175; have BK177 := n0_; have HB := n1_; have HI175 := n2_; clear n0_ n1_ n2_; (try clear hb); (try clear hb2); (try clear hk); (try clear hi)) | (go_at_call 15; (with_reducible refine (buffer_Buffer_Done.calls g175 t199 t200 t201 true t207 t208 t209 w _ ?side1 ?side2 A110.out).mono ?_); (case side1 => repeat (first | (with_reducible first | exact HI175.out | apply IsS38.alloc | apply IsS38.drewN | apply IsS38.drew | apply IsS38.set_0 | apply IsS38.set_1 | apply IsS38.set_2 | refine IsS38.far ?_ NB175_177.out _) | exact HI175.out)); (case side2 => repeat (first | (with_reducible first | exact HB.out | apply below_alloc | apply pw_below_drewN | apply below_drew1 | refine below_set ?_ (IsS38.ge HI175.out) | refine below_set ?_ GE177.out) | exact HB.out)); rintro e w114 ⟨rfl, hi, hb, hk⟩; have n0_ := Aside0.mk (KeepBut.blk hk (g' := gb177) (o := .cells #[.int .i64 ((rd_T33 l1 x62_2).f0), .int .i64 ((rd_T33 l1 x62_2).f1), .string ((rd_T33 l1 x62_2).f2)] 33 (0, 0)) (by (with_reducible repeat (first | refine blk_drewN ?_ _ | refine blk_drew ?_ | refine blk_alloc ?_ _)); exact BK177.out) NB177_175.out (by simp)); have n1_ := Aside0.mk (hb); have n2_ := Aside0.mk (hi); clear BK177; clear HB; clear HI175; have BK177 := n0_; have HB := n1_; have HI175 := n2_; clear n0_ n1_ n2_; (try clear hb); (try clear hb2); (try clear hk); (try clear hi)))
                                  go_ret
                                  exact ⟨by first | rfl | (simp [errW_none, errW_some] <;> rfl) | (simp [*, errW_none, errW_some] <;> rfl), by repeat (first | (with_reducible first | exact HB.out | apply below_alloc | apply pw_below_drewN | apply below_drew1 | refine below_set ?_ (IsS38.ge HI175.out) | refine below_set ?_ GE177.out) | exact HB.out)⟩
                                · replace c111 := Bool.eq_false_iff.mpr c111
                                  subst c111
                                  have H1 : (bywashlaw13_BufferPlays.l0 kj20 a0 x7_20 false l1 (l1.length : Int) (wrap64 (x62_2 + 1)) t207 t208 t209) = some r := by rw [if_neg (show ¬ (false = true) by decide)] at H; exact H
                                  clear H
                                  have H := H1
                                  clear H1
                                  have H' := Aside0.mk H
                                  clear H
                                  go_wp2_with (first | ((with_reducible refine gate_callee (f := 11) rfl ?_); refine goesL_ (some 137) rfl rfl Try.func11 (by kernel_rfl) rfl #[.pointer (some ⟨g175, 0, none⟩)] rfl (by (try simp only [List.map_toArray, List.map_cons, List.map_nil]); first | done | rfl | (simp only [List.length_drop, List.length_take]; rfl)) ?_; (with_reducible refine (buffer_Buffer_Len.calls g175 x176000_20 x176001_20 x176002_20 t194 t195 t196 t197 w _ ?side1 ?side2 A84.out).mono ?_); (case side1 => repeat (first | (with_reducible first | exact HI175.out | apply IsS38.alloc | apply IsS38.drewN | apply IsS38.drew | apply IsS38.set_0 | apply IsS38.set_1 | apply IsS38.set_2 | refine IsS38.far ?_ NB175_177.out _) | exact HI175.out)); (case side2 => repeat (first | (with_reducible first | exact HB.out | apply below_alloc | apply pw_below_drewN | apply below_drew1 | refine below_set ?_ (IsS38.ge HI175.out) | refine below_set ?_ GE177.out) | exact HB.out)); rintro e w115 ⟨rfl, hi, hb, hk⟩; refine ⟨_, rfl, ?_⟩; have n0_ := Aside0.mk (KeepBut.blk hk (g' := gb177) (o := .cells #[.int .i64 ((rd_T33 l1 x62_2).f0), .int .i64 ((rd_T33 l1 x62_2).f1), .string ((rd_T33 l1 x62_2).f2)] 33 (0, 0)) (by (with_reducible repeat (first | refine blk_drewN ?_ _ | refine blk_drew ?_ | refine blk_alloc ?_ _)); exact BK177.out) NB177_175.out (by simp)); have n1_ := Aside0.mk (hb); have n2_ := Aside0.mk (hi); clear BK177; clear HB; clear HI175; have BK177 := n0_; have HB := n1_; have HI175 := n2_; clear n0_ n1_ n2_; (try clear hb); (try clear hb2); (try clear hk); (try clear hi)) | (go_at_call 14; (with_reducible refine (buffer_Buffer_Ended.calls g175 t195 t196 t197 false t199 t200 t201 w _ ?side1 ?side2 A86.out).mono ?_); (case side1 => repeat (first | (with_reducible first | exact HI175.out | apply IsS38.alloc | apply IsS38.drewN | apply IsS38.drew | apply IsS38.set_0 | apply IsS38.set_1 | apply IsS38.set_2 | refine IsS38.far ?_ NB175_177.out _) | exact HI175.out)); (case side2 => repeat (first | (with_reducible first | exact HB.out | apply below_alloc | apply pw_below_drewN | apply below_drew1 | refine below_set ?_ (IsS38.ge HI175.out) | refine below_set ?_ GE177.out) | exact HB.out)); rintro e w116 ⟨rfl, hi, hb, hk⟩; have n0_ := Aside0.mk (KeepBut.blk hk (g' := gb177) (o := .cells #[.int .i64 ((rd_T33 l1 x62_2).f0), .int .i64 ((rd_T33 l1 x62_2).f1), .string ((rd_T33 l1 x62_2).f2)] 33 (0, 0)) (by (with_reducible repeat (first | refine blk_drewN ?_ _ | refine blk_drew ?_ | refine blk_alloc ?_ _)); exact BK177.out) NB177_175.out (by simp)); have n1_ := Aside0.mk (hb); have n2_ := Aside0.mk (hi); clear BK177; clear HB; clear HI175; have BK177 := n0_; have HB := n1_; have HI175 := n2_; clear n0_ n1_ n2_; (try clear hb); (try clear hb2); (try clear hk); (try clear hi)) | (go_at_call 15; (with_reducible refine (buffer_Buffer_Done.calls g175 t199 t200 t201 false t207 t208 t209 w _ ?side1 ?side2 A110.out).mono ?_); (case side1 => repeat (first | (with_reducible first | exact HI175.out | apply IsS38.alloc | apply IsS38.drewN | apply IsS38.drew | apply IsS38.set_0 | apply IsS38.set_1 | apply IsS38.set_2 | refine IsS38.far ?_ NB175_177.out _) | exact HI175.out)); (case side2 => repeat (first | (with_reducible first | exact HB.out | apply below_alloc | apply pw_below_drewN | apply below_drew1 | refine below_set ?_ (IsS38.ge HI175.out) | refine below_set ?_ GE177.out) | exact HB.out)); rintro e w117 ⟨rfl, hi, hb, hk⟩; have n0_ := Aside0.mk (KeepBut.blk hk (g' := gb177) (o := .cells #[.int .i64 ((rd_T33 l1 x62_2).f0), .int .i64 ((rd_T33 l1 x62_2).f1), .string ((rd_T33 l1 x62_2).f2)] 33 (0, 0)) (by (with_reducible repeat (first | refine blk_drewN ?_ _ | refine blk_drew ?_ | refine blk_alloc ?_ _)); exact BK177.out) NB177_175.out (by simp)); have n1_ := Aside0.mk (hb); have n2_ := Aside0.mk (hi); clear BK177; clear HB; clear HI175; have BK177 := n0_; have HB := n1_; have HI175 := n2_; clear n0_ n1_ n2_; (try clear hb); (try clear hb2); (try clear hk); (try clear hi)))
                                  go_roundg kj20
                                  case measure => have := HJ2.out; have := HK2.out; have := HJ20.out; omega
                                  case rel => exact ⟨(x7_20), (false), (wrap64 (x62_2 + 1)), (t207), (t208), (t209), (by first | rfl | (simp; done) | (simp [*]; done)), (by first | rfl | (simp; done) | (simp [*]; done)), (by first | rfl | (simp; done) | (simp [*]; done)), H', ⟨by have := HJ2.out; have := HK2.out; have := HJ20.out; omega⟩, ⟨by repeat (first | (with_reducible first | exact HI175.out | apply IsS38.alloc | apply IsS38.drewN | apply IsS38.drew | apply IsS38.set_0 | apply IsS38.set_1 | apply IsS38.set_2 | refine IsS38.far ?_ NB175_177.out _) | exact HI175.out)⟩, ⟨by repeat (first | (with_reducible first | exact HB.out | apply below_alloc | apply pw_below_drewN | apply below_drew1 | refine below_set ?_ (IsS38.ge HI175.out) | refine below_set ?_ GE177.out) | exact HB.out)⟩⟩
                          · rw [if_neg c85] at H
                            have c85b0 : (t194 == (x7_20.size : Int)) = false := beq_eq_false_iff_ne.mpr c85
                            have c85b1 : (t194 != (x7_20.size : Int)) = true := bne_iff_ne.mpr c85
                            obtain rfl := Option.some.inj H
                            go_wp2_with (first | ((with_reducible refine gate_callee (f := 11) rfl ?_); refine goesL_ (some 137) rfl rfl Try.func11 (by kernel_rfl) rfl #[.pointer (some ⟨g175, 0, none⟩)] rfl (by (try simp only [List.map_toArray, List.map_cons, List.map_nil]); first | done | rfl | (simp only [List.length_drop, List.length_take]; rfl)) ?_; (with_reducible refine (buffer_Buffer_Len.calls g175 x176000_20 x176001_20 x176002_20 t194 t195 t196 t197 w _ ?side1 ?side2 A84.out).mono ?_); (case side1 => repeat (first | (with_reducible first | exact HI175.out | apply IsS38.alloc | apply IsS38.drewN | apply IsS38.drew | apply IsS38.set_0 | apply IsS38.set_1 | apply IsS38.set_2 | refine IsS38.far ?_ NB175_177.out _) | exact HI175.out)); (case side2 => repeat (first | (with_reducible first | exact HB.out | apply below_alloc | apply pw_below_drewN | apply below_drew1 | refine below_set ?_ (IsS38.ge HI175.out) | refine below_set ?_ GE177.out) | exact HB.out)); rintro e w118 ⟨rfl, hi, hb, hk⟩; refine ⟨_, rfl, ?_⟩; have n0_ := Aside0.mk (KeepBut.blk hk (g' := gb177) (o := .cells #[.int .i64 ((rd_T33 l1 x62_2).f0), .int .i64 ((rd_T33 l1 x62_2).f1), .string ((rd_T33 l1 x62_2).f2)] 33 (0, 0)) (by (with_reducible repeat (first | refine blk_drewN ?_ _ | refine blk_drew ?_ | refine blk_alloc ?_ _)); exact BK177.out) NB177_175.out (by simp)); have n1_ := Aside0.mk (hb); have n2_ := Aside0.mk (hi); clear BK177; clear HB; clear HI175; have BK177 := n0_; have HB := n1_; have HI175 := n2_; clear n0_ n1_ n2_; (try clear hb); (try clear hb2); (try clear hk); (try clear hi)))
                            go_ret
                            exact ⟨by first | rfl | (simp [errW_none, errW_some] <;> rfl) | (simp [*, errW_none, errW_some] <;> rfl), by repeat (first | (with_reducible first | exact HB.out | apply below_alloc | apply pw_below_drewN | apply below_drew1 | refine below_set ?_ (IsS38.ge HI175.out) | refine below_set ?_ GE177.out) | exact HB.out)⟩
                  · rw [if_neg c16] at H
                    exact absurd H (by simp)
                · rw [if_neg c15] at H
                  exact absurd H (by simp)
              · rw [if_neg c14] at H
                have c14b0 : decide (x62_2 < (l1.length : Int)) = false := decide_eq_false c14
                clear c14
                obtain rfl := Option.some.inj H
                go_wp2
                go_ret
                exact ⟨by first | rfl | (simp [errW_none, errW_some] <;> rfl) | (simp [*, errW_none, errW_some] <;> rfl), by repeat (first | (with_reducible first | exact HB.out | apply below_alloc | apply pw_below_drewN | apply below_drew1 | refine below_set ?_ (IsS38.ge HI175.out)) | exact HB.out)⟩

end Go.Proofs.Ytofjbbbajnohaaa.PBufferPlays
