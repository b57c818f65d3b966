-- Written by a program of this session (the kit's printer, turned): the functions that the law reaches.
import Derived.Test.YtofjbbbajnohaaaPBufferEndsx0
import Derived.Test.YtofjbbbajnohaaaPBufferEndsx1
import Derived.Test.YtofjbbbajnohaaaPBufferEndsx2
namespace Go.Proofs.Ytofjbbbajnohaaa.PBufferEnds
open Go.RowKit Go.Proofs.YtofjbbbajnohaaaW.PrintWords Go.Proofs.YtofjbbbajnohaaaW.PrintLast Go.Proofs.YtofjbbbajnohaaaW.PrintMore
attribute [local go_sem] max2_int min2_int max_two min_two max_three min_three max_four min_four   -- for this text's walks alone
set_option linter.unusedVariables false
set_option linter.unusedSimpArgs false

/-! ### bywashlaw13_BufferEnds: function 6 -/
mutual
def bywashlaw13_BufferEnds.j0 : Nat → ByteArray → ByteArray → Int → Bool → Option (Bool)
  | 0, _, _, _, _ => none
  | k + 1, x0, x1, x2, x19 => if x19 = true then ((bywashlaw13_alive.f k).bind fun t171 => (some t171)) else ((buffer_New.f 1000).bind fun bt172 => ((buffer_Buffer_Put.f bt172.1 bt172.2.1 bt172.2.2 x0).bind fun bt176 => (if bt176.1 = true then ((buffer_Buffer_Ended.f bt176.2.1 bt176.2.2.1 bt176.2.2.2).bind fun bt180 => (if bt180.1 = true then (bywashlaw13_BufferEnds.j1 k x0 x2 true bt180.2.1 bt180.2.2.1 bt180.2.2.2) else ((buffer_Buffer_End.f bt180.2.1 bt180.2.2.1 bt180.2.2.2).bind fun bt184 => (if bt184.1 = true then ((buffer_Buffer_End.f bt184.2.1 bt184.2.2.1 bt184.2.2.2).bind fun bt188 => (if bt188.1 = true then (bywashlaw13_BufferEnds.j1 k x0 x2 true bt188.2.1 bt188.2.2.1 bt188.2.2.2) else ((buffer_Buffer_Put.f bt188.2.1 bt188.2.2.1 bt188.2.2.2 x1).bind fun bt192 => (if bt192.1 = true then (bywashlaw13_BufferEnds.j1 k x0 x2 true bt192.2.1 bt192.2.2.1 bt192.2.2.2) else ((buffer_Buffer_Done.f bt192.2.1 bt192.2.2.1 bt192.2.2.2).bind fun bt196 => (if bt196.1 = true then (if x0.toList = ([] : List UInt8) then (bywashlaw13_BufferEnds.j1 k x0 x2 false bt196.2.1 bt196.2.2.1 bt196.2.2.2) else (bywashlaw13_BufferEnds.j1 k x0 x2 true bt196.2.1 bt196.2.2.1 bt196.2.2.2)) else (if x0.toList = ([] : List UInt8) then (bywashlaw13_BufferEnds.j1 k x0 x2 true bt196.2.1 bt196.2.2.1 bt196.2.2.2) else (bywashlaw13_BufferEnds.j1 k x0 x2 false bt196.2.1 bt196.2.2.1 bt196.2.2.2)))))))) else (bywashlaw13_BufferEnds.j1 k x0 x2 true bt184.2.1 bt184.2.2.1 bt184.2.2.2))))) else (bywashlaw13_BufferEnds.j1 k x0 x2 true bt176.2.1 bt176.2.2.1 bt176.2.2.2))))
def bywashlaw13_BufferEnds.j1 : Nat → ByteArray → Int → Bool → ByteArray → Int → Bool → Option (Bool)
  | 0, _, _, _, _, _, _ => none
  | k + 1, x0, x2, x54, x176000, x176001, x176002 => if x54 = true then (some false) else (bywashlaw13_BufferEnds.l0 k x0 x2 (⟨#[]⟩ : ByteArray) 0 x176000 x176001 x176002)
def bywashlaw13_BufferEnds.l0 : Nat → ByteArray → Int → ByteArray → Int → ByteArray → Int → Bool → Option (Bool)
  | 0, _, _, _, _, _, _, _ => none
  | k + 1, x0, x2, x8, x9, x176000, x176001, x176002 => if x9 < 400 then ((buffer_Buffer_Done.f x176000 x176001 x176002).bind fun bt200 => (bywashlaw13_BufferEnds.j3 k x0 x2 x8 x9 (!bt200.1) bt200.2.1 bt200.2.2.1 bt200.2.2.2)) else (bywashlaw13_BufferEnds.j3 k x0 x2 x8 x9 false x176000 x176001 x176002)
def bywashlaw13_BufferEnds.j3 : Nat → ByteArray → Int → ByteArray → Int → Bool → ByteArray → Int → Bool → Option (Bool)
  | 0, _, _, _, _, _, _, _, _ => none
  | k + 1, x0, x2, x8, x9, x61, x176000, x176001, x176002 => if x61 = true then ((buffer_Buffer_Get.f x176000 x176001 x176002 (wrap64 (1 + (Int.tmod (wrap64 ((Int.tmod x2 50) + 50)) 50)))).bind fun bt204 => (if x8.size + bt204.1.size ≤ 9223372036854775807 then (bywashlaw13_BufferEnds.l0 k x0 x2 (x8 ++ bt204.1) (wrap64 (x9 + 1)) bt204.2.1 bt204.2.2.1 bt204.2.2.2) else (none))) else ((buffer_Buffer_Done.f x176000 x176001 x176002).bind fun bt208 => (if bt208.1 = true then (if x8.toList = x0.toList then ((buffer_Buffer_Get.f bt208.2.1 bt208.2.2.1 bt208.2.2.2 5).bind fun bt212 => (if bt212.1.toList = ([] : List UInt8) then ((buffer_Buffer_Drop.f bt212.2.1 bt212.2.2.1 bt212.2.2.2).bind fun bt216 => (bywashlaw13_BufferEnds.j4 k (bt216.1 == 0))) else (bywashlaw13_BufferEnds.j4 k false))) else (bywashlaw13_BufferEnds.j4 k false)) else (bywashlaw13_BufferEnds.j4 k false)))
def bywashlaw13_BufferEnds.j4 : Nat → Bool → Option (Bool)
  | 0, _ => none
  | k + 1, x6 => some x6
end
def bywashlaw13_BufferEnds.f (k : Nat) (a0 : ByteArray) (a1 : ByteArray) (a2 : Int) : Option (Bool) := if (wrap64 ((a0.size : Int) + (a1.size : Int))) > 300 then (bywashlaw13_BufferEnds.j0 k a0 a1 a2 true) else ((bywashlaw13_alive.f k).bind fun t170 => (bywashlaw13_BufferEnds.j0 k a0 a1 a2 (!t170)))
theorem bywashlaw13_BufferEnds.mono_l : ∀ k, (∀ y0 y1 y2 y3, LeO (bywashlaw13_BufferEnds.j0 k y0 y1 y2 y3) (bywashlaw13_BufferEnds.j0 (k + 1) y0 y1 y2 y3)) ∧ (∀ y0 y1 y2 y3 y4 y5, LeO (bywashlaw13_BufferEnds.j1 k y0 y1 y2 y3 y4 y5) (bywashlaw13_BufferEnds.j1 (k + 1) y0 y1 y2 y3 y4 y5)) ∧ (∀ y0 y1 y2 y3 y4 y5 y6, LeO (bywashlaw13_BufferEnds.l0 k y0 y1 y2 y3 y4 y5 y6) (bywashlaw13_BufferEnds.l0 (k + 1) y0 y1 y2 y3 y4 y5 y6)) ∧ (∀ y0 y1 y2 y3 y4 y5 y6 y7, LeO (bywashlaw13_BufferEnds.j3 k y0 y1 y2 y3 y4 y5 y6 y7) (bywashlaw13_BufferEnds.j3 (k + 1) y0 y1 y2 y3 y4 y5 y6 y7)) ∧ (∀ y0, LeO (bywashlaw13_BufferEnds.j4 k y0) (bywashlaw13_BufferEnds.j4 (k + 1) y0))
  | 0 => ⟨fun _ _ _ _ r h => by simp [bywashlaw13_BufferEnds.j0] at h, fun _ _ _ _ _ _ r h => by simp [bywashlaw13_BufferEnds.j1] at h, fun _ _ _ _ _ _ _ r h => by simp [bywashlaw13_BufferEnds.l0] at h, fun _ _ _ _ _ _ _ _ r h => by simp [bywashlaw13_BufferEnds.j3] at h, fun _ r h => by simp [bywashlaw13_BufferEnds.j4] at h⟩
  | k + 1 => by
    obtain ⟨ih0, ih1, ih2, ih3, ih4⟩ := bywashlaw13_BufferEnds.mono_l k
    refine ⟨?_, ?_, ?_, ?_, ?_⟩
    · intro y0 y1 y2 y3
      unfold bywashlaw13_BufferEnds.j0
      repeat' first
      | (with_reducible exact ih0 _ _ _ _)
      | (with_reducible exact ih1 _ _ _ _ _ _)
      | (with_reducible exact ih2 _ _ _ _ _ _ _)
      | (with_reducible exact ih3 _ _ _ _ _ _ _ _)
      | (with_reducible exact ih4 _)
      | (with_reducible exact bywashlaw13_alive.mono _)
      | (with_reducible exact LeO.refl _)
      | (with_reducible exact LeO.none _)
      | (with_reducible refine LeO.ite ?_ ?_)
      | (with_reducible refine LeO.bind ?_ (fun _ => ?_))
      | exact ih0 _ _ _ _
      | exact ih1 _ _ _ _ _ _
      | exact ih2 _ _ _ _ _ _ _
      | exact ih3 _ _ _ _ _ _ _ _
      | exact ih4 _
      | exact bywashlaw13_alive.mono _
      | exact LeO.none _
      | refine LeO.ite ?_ ?_
      | refine LeO.bind ?_ (fun _ => ?_)
    · intro y0 y1 y2 y3 y4 y5
      unfold bywashlaw13_BufferEnds.j1
      repeat' first
      | (with_reducible exact ih0 _ _ _ _)
      | (with_reducible exact ih1 _ _ _ _ _ _)
      | (with_reducible exact ih2 _ _ _ _ _ _ _)
      | (with_reducible exact ih3 _ _ _ _ _ _ _ _)
      | (with_reducible exact ih4 _)
      | (with_reducible exact bywashlaw13_alive.mono _)
      | (with_reducible exact LeO.refl _)
      | (with_reducible exact LeO.none _)
      | (with_reducible refine LeO.ite ?_ ?_)
      | (with_reducible refine LeO.bind ?_ (fun _ => ?_))
      | exact ih0 _ _ _ _
      | exact ih1 _ _ _ _ _ _
      | exact ih2 _ _ _ _ _ _ _
      | exact ih3 _ _ _ _ _ _ _ _
      | exact ih4 _
      | exact bywashlaw13_alive.mono _
      | exact LeO.none _
      | refine LeO.ite ?_ ?_
      | refine LeO.bind ?_ (fun _ => ?_)
    · intro y0 y1 y2 y3 y4 y5 y6
      unfold bywashlaw13_BufferEnds.l0
      repeat' first
      | (with_reducible exact ih0 _ _ _ _)
      | (with_reducible exact ih1 _ _ _ _ _ _)
      | (with_reducible exact ih2 _ _ _ _ _ _ _)
      | (with_reducible exact ih3 _ _ _ _ _ _ _ _)
      | (with_reducible exact ih4 _)
      | (with_reducible exact bywashlaw13_alive.mono _)
      | (with_reducible exact LeO.refl _)
      | (with_reducible exact LeO.none _)
      | (with_reducible refine LeO.ite ?_ ?_)
      | (with_reducible refine LeO.bind ?_ (fun _ => ?_))
      | exact ih0 _ _ _ _
      | exact ih1 _ _ _ _ _ _
      | exact ih2 _ _ _ _ _ _ _
      | exact ih3 _ _ _ _ _ _ _ _
      | exact ih4 _
      | exact bywashlaw13_alive.mono _
      | exact LeO.none _
      | refine LeO.ite ?_ ?_
      | refine LeO.bind ?_ (fun _ => ?_)
    · intro y0 y1 y2 y3 y4 y5 y6 y7
      unfold bywashlaw13_BufferEnds.j3
      repeat' first
      | (with_reducible exact ih0 _ _ _ _)
      | (with_reducible exact ih1 _ _ _ _ _ _)
      | (with_reducible exact ih2 _ _ _ _ _ _ _)
      | (with_reducible exact ih3 _ _ _ _ _ _ _ _)
      | (with_reducible exact ih4 _)
      | (with_reducible exact bywashlaw13_alive.mono _)
      | (with_reducible exact LeO.refl _)
      | (with_reducible exact LeO.none _)
      | (with_reducible refine LeO.ite ?_ ?_)
      | (with_reducible refine LeO.bind ?_ (fun _ => ?_))
      | exact ih0 _ _ _ _
      | exact ih1 _ _ _ _ _ _
      | exact ih2 _ _ _ _ _ _ _
      | exact ih3 _ _ _ _ _ _ _ _
      | exact ih4 _
      | exact bywashlaw13_alive.mono _
      | exact LeO.none _
      | refine LeO.ite ?_ ?_
      | refine LeO.bind ?_ (fun _ => ?_)
    · intro y0
      unfold bywashlaw13_BufferEnds.j4
      repeat' first
      | (with_reducible exact ih0 _ _ _ _)
      | (with_reducible exact ih1 _ _ _ _ _ _)
      | (with_reducible exact ih2 _ _ _ _ _ _ _)
      | (with_reducible exact ih3 _ _ _ _ _ _ _ _)
      | (with_reducible exact ih4 _)
      | (with_reducible exact bywashlaw13_alive.mono _)
      | (with_reducible exact LeO.refl _)
      | (with_reducible exact LeO.none _)
      | (with_reducible refine LeO.ite ?_ ?_)
      | (with_reducible refine LeO.bind ?_ (fun _ => ?_))
      | exact ih0 _ _ _ _
      | exact ih1 _ _ _ _ _ _
      | exact ih2 _ _ _ _ _ _ _
      | exact ih3 _ _ _ _ _ _ _ _
      | exact ih4 _
      | exact bywashlaw13_alive.mono _
      | exact LeO.none _
      | refine LeO.ite ?_ ?_
      | refine LeO.bind ?_ (fun _ => ?_)
theorem bywashlaw13_BufferEnds.mono : ∀ a0 a1 a2 k, LeO (bywashlaw13_BufferEnds.f k a0 a1 a2) (bywashlaw13_BufferEnds.f (k + 1) a0 a1 a2) := by
  intro a0 a1 a2 k
  obtain ⟨ih0, ih1, ih2, ih3, ih4⟩ := bywashlaw13_BufferEnds.mono_l k
  unfold bywashlaw13_BufferEnds.f
  repeat' first
      | (with_reducible exact ih0 _ _ _ _)
      | (with_reducible exact ih1 _ _ _ _ _ _)
      | (with_reducible exact ih2 _ _ _ _ _ _ _)
      | (with_reducible exact ih3 _ _ _ _ _ _ _ _)
      | (with_reducible exact ih4 _)
      | (with_reducible exact bywashlaw13_alive.mono _)
      | (with_reducible exact LeO.refl _)
      | (with_reducible exact LeO.none _)
      | (with_reducible refine LeO.ite ?_ ?_)
      | (with_reducible refine LeO.bind ?_ (fun _ => ?_))
      | exact ih0 _ _ _ _
      | exact ih1 _ _ _ _ _ _
      | exact ih2 _ _ _ _ _ _ _
      | exact ih3 _ _ _ _ _ _ _ _
      | exact ih4 _
      | exact bywashlaw13_alive.mono _
      | exact LeO.none _
      | refine LeO.ite ?_ ?_
      | refine LeO.bind ?_ (fun _ => ?_)
set_option maxHeartbeats 8000000 in
set_option maxRecDepth 100000 in
theorem bywashlaw13_BufferEnds.calls (k : Nat) (a0 : ByteArray) (a1 : ByteArray) (a2 : Int) (r : Bool) (w : World) (h : bywashlaw13_BufferEnds.f k a0 a1 a2 = some r) :
    Calls Try.prog 6 #[.string a0, .string a1, .int .i64 a2] w fun e w' => e = .returned (.bool r) ∧ Below w.heap.size w w' := by
  have HB := Aside0.mk (Below.refl w.heap.size w)
  have H : (if (wrap64 ((a0.size : Int) + (a1.size : Int))) > 300 then (bywashlaw13_BufferEnds.j0 k a0 a1 a2 true) else ((bywashlaw13_alive.f k).bind fun t170 => (bywashlaw13_BufferEnds.j0 k a0 a1 a2 (!t170)))) = some r := h
  clear h
  have HC4 := Aside0.mk H
  clear H
  go_enter Try.func6, Try.ntmps6
  go_upto_region 1 with (fail)
  go_cut [19] (fun v19 wc => ∃ (kq : Nat) (x19_3 : Bool), v19 = .bool x19_3 ∧ Aside0 (bywashlaw13_BufferEnds.j0 kq a0 a1 a2 x19_3 = some r) ∧ Aside0 (kq ≤ k) ∧ Aside0 (Below w.heap.size w wc))
  case first =>
    have H := HC4.out
    clear HC4
    by_cases c5 : (wrap64 ((a0.size : Int) + (a1.size : Int))) > 300
    · rw [if_pos c5] at H
      have c5b0 : decide (300 < (wrap64 ((a0.size : Int) + (a1.size : Int)))) = true := decide_eq_true c5
      clear c5
      (first | rw [c5b0] | (simp only [i64_w, i32_w]; rw [c5b0]) | skip)
      have H' := Aside0.mk H
      clear H
      go_wp2
      go_meet
      case rel => exact ⟨_, (true), (by first | rfl | (simp; done) | (simp [*]; done)), H', ⟨by first | omega | exact Nat.le_refl _⟩, ⟨by repeat (first | (with_reducible first | exact HB.out | apply below_alloc | apply pw_below_drewN | apply below_drew1) | exact HB.out)⟩⟩
    · rw [if_neg c5] at H
      have c5b0 : decide (300 < (wrap64 ((a0.size : Int) + (a1.size : Int)))) = false := decide_eq_false c5
      clear c5
      (first | rw [c5b0] | (simp only [i64_w, i32_w]; rw [c5b0]) | skip)
      replace H := Option.bind_eq_some_iff.mp H
      obtain ⟨t170, A60, H⟩ := H
      replace H : (bywashlaw13_BufferEnds.j0 k a0 a1 a2 (!t170)) = some r := H
      have A6 := Aside0.mk A60
      clear A60
      have H' := Aside0.mk H
      clear H
      go_wp2_with (first | (go_at_call 7; (with_reducible refine (bywashlaw13_alive.calls k  t170 _ A6.out).mono ?_); rintro e w7 ⟨rfl, hb⟩; have n0_ := Aside0.mk (below_step (by repeat (first | (with_reducible first | exact HB.out | apply below_alloc | apply pw_below_drewN | apply below_drew1) | exact HB.out)) hb); clear HB; have HB := n0_; clear n0_; (try clear hb); (try clear hb2); (try clear hk); (try clear hi)))
      go_meet
      case rel => exact ⟨_, (!t170), (by first | rfl | (simp; done) | (simp [*]; done)), H', ⟨by first | omega | exact Nat.le_refl _⟩, ⟨by repeat (first | (with_reducible first | exact HB.out | apply below_alloc | apply pw_below_drewN | apply below_drew1) | exact HB.out)⟩⟩
  case rest =>
    clear HC4
    try clear p2
    try clear c5
    try clear c5b0
    try clear c6
    try clear p6
    obtain ⟨kq, x19_3, rfl, HA, HJ3, HB⟩ := hcut
    cases kq with
    | zero => exact absurd HA.out (by simp [bywashlaw13_BufferEnds.j0])
    | succ kj3 =>
      have H := HA.out
      clear HA
      simp only [bywashlaw13_BufferEnds.j0] at H
      by_cases c8 : x19_3 = true
      · subst c8
        have H1 : ((bywashlaw13_alive.f kj3).bind fun t171 => (some t171)) = some r := by rw [if_pos rfl] at H; exact H
        clear H
        have H := H1
        clear H1
        replace H := Option.bind_eq_some_iff.mp H
        obtain ⟨t171, A90, H⟩ := H
        replace H : (some t171) = some r := H
        have A9 := Aside0.mk A90
        clear A90
        obtain rfl := Option.some.inj H
        go_wp2_with (first | ((with_reducible refine gate_callee (f := 7) rfl ?_); refine goesL_ (some 20) rfl rfl Try.func7 (by kernel_rfl) rfl #[] rfl (by (try simp only [List.map_toArray, List.map_cons, List.map_nil]); first | done | rfl | (simp only [List.length_drop, List.length_take]; rfl)) ?_; (with_reducible refine (bywashlaw13_alive.calls kj3  t171 _ A9.out).mono ?_); rintro e w10 ⟨rfl, hb⟩; refine ⟨_, rfl, ?_⟩; have n0_ := Aside0.mk (below_step (by repeat (first | (with_reducible first | exact HB.out | apply below_alloc | apply pw_below_drewN | apply below_drew1) | exact HB.out)) hb); clear HB; have HB := n0_; clear n0_; (try clear hb); (try clear hb2); (try clear hk); (try clear hi)))
        go_ret
        exact ⟨by first | rfl | (simp [errW_none, errW_some] <;> rfl) | (simp [*, errW_none, errW_some] <;> rfl), by repeat (first | (with_reducible first | exact HB.out | apply below_alloc | apply pw_below_drewN | apply below_drew1) | exact HB.out)⟩
      · replace c8 := Bool.eq_false_iff.mpr c8
        subst c8
        have H1 : ((buffer_New.f 1000).bind fun bt172 => ((buffer_Buffer_Put.f bt172.1 bt172.2.1 bt172.2.2 a0).bind fun bt176 => (if bt176.1 = true then ((buffer_Buffer_Ended.f bt176.2.1 bt176.2.2.1 bt176.2.2.2).bind fun bt180 => (if bt180.1 = true then (bywashlaw13_BufferEnds.j1 kj3 a0 a2 true bt180.2.1 bt180.2.2.1 bt180.2.2.2) else ((buffer_Buffer_End.f bt180.2.1 bt180.2.2.1 bt180.2.2.2).bind fun bt184 => (if bt184.1 = true then ((buffer_Buffer_End.f bt184.2.1 bt184.2.2.1 bt184.2.2.2).bind fun bt188 => (if bt188.1 = true then (bywashlaw13_BufferEnds.j1 kj3 a0 a2 true bt188.2.1 bt188.2.2.1 bt188.2.2.2) else ((buffer_Buffer_Put.f bt188.2.1 bt188.2.2.1 bt188.2.2.2 a1).bind fun bt192 => (if bt192.1 = true then (bywashlaw13_BufferEnds.j1 kj3 a0 a2 true bt192.2.1 bt192.2.2.1 bt192.2.2.2) else ((buffer_Buffer_Done.f bt192.2.1 bt192.2.2.1 bt192.2.2.2).bind fun bt196 => (if bt196.1 = true then (if a0.toList = ([] : List UInt8) then (bywashlaw13_BufferEnds.j1 kj3 a0 a2 false bt196.2.1 bt196.2.2.1 bt196.2.2.2) else (bywashlaw13_BufferEnds.j1 kj3 a0 a2 true bt196.2.1 bt196.2.2.1 bt196.2.2.2)) else (if a0.toList = ([] : List UInt8) then (bywashlaw13_BufferEnds.j1 kj3 a0 a2 true bt196.2.1 bt196.2.2.1 bt196.2.2.2) else (bywashlaw13_BufferEnds.j1 kj3 a0 a2 false bt196.2.1 bt196.2.2.1 bt196.2.2.2)))))))) else (bywashlaw13_BufferEnds.j1 kj3 a0 a2 true bt184.2.1 bt184.2.2.1 bt184.2.2.2))))) else (bywashlaw13_BufferEnds.j1 kj3 a0 a2 true bt176.2.1 bt176.2.2.1 bt176.2.2.2)))) = some r := by rw [if_neg (show ¬ (false = true) by decide)] at H; exact H
        clear H
        have H := H1
        clear H1
        replace H := Option.bind_eq_some_iff.mp H
        obtain ⟨⟨t172, t173, t174⟩, A110, H⟩ := H
        replace H : ((buffer_Buffer_Put.f t172 t173 t174 a0).bind fun bt176 => (if bt176.1 = true then ((buffer_Buffer_Ended.f bt176.2.1 bt176.2.2.1 bt176.2.2.2).bind fun bt180 => (if bt180.1 = true then (bywashlaw13_BufferEnds.j1 kj3 a0 a2 true bt180.2.1 bt180.2.2.1 bt180.2.2.2) else ((buffer_Buffer_End.f bt180.2.1 bt180.2.2.1 bt180.2.2.2).bind fun bt184 => (if bt184.1 = true then ((buffer_Buffer_End.f bt184.2.1 bt184.2.2.1 bt184.2.2.2).bind fun bt188 => (if bt188.1 = true then (bywashlaw13_BufferEnds.j1 kj3 a0 a2 true bt188.2.1 bt188.2.2.1 bt188.2.2.2) else ((buffer_Buffer_Put.f bt188.2.1 bt188.2.2.1 bt188.2.2.2 a1).bind fun bt192 => (if bt192.1 = true then (bywashlaw13_BufferEnds.j1 kj3 a0 a2 true bt192.2.1 bt192.2.2.1 bt192.2.2.2) else ((buffer_Buffer_Done.f bt192.2.1 bt192.2.2.1 bt192.2.2.2).bind fun bt196 => (if bt196.1 = true then (if a0.toList = ([] : List UInt8) then (bywashlaw13_BufferEnds.j1 kj3 a0 a2 false bt196.2.1 bt196.2.2.1 bt196.2.2.2) else (bywashlaw13_BufferEnds.j1 kj3 a0 a2 true bt196.2.1 bt196.2.2.1 bt196.2.2.2)) else (if a0.toList = ([] : List UInt8) then (bywashlaw13_BufferEnds.j1 kj3 a0 a2 true bt196.2.1 bt196.2.2.1 bt196.2.2.2) else (bywashlaw13_BufferEnds.j1 kj3 a0 a2 false bt196.2.1 bt196.2.2.1 bt196.2.2.2)))))))) else (bywashlaw13_BufferEnds.j1 kj3 a0 a2 true bt184.2.1 bt184.2.2.1 bt184.2.2.2))))) else (bywashlaw13_BufferEnds.j1 kj3 a0 a2 true bt176.2.1 bt176.2.2.1 bt176.2.2.2))) = some r := H
        have A11 := Aside0.mk A110
        clear A110
        have HC12 := Aside0.mk H
        clear H
        go_upto_region 4 with (first | ((with_reducible refine gate_callee (f := 8) rfl ?_); refine goesL_ (some 21) rfl rfl Try.func8 (by kernel_rfl) rfl #[.int .i64 1000] rfl (by (try simp only [List.map_toArray, List.map_cons, List.map_nil]); first | done | rfl | (simp only [List.length_drop, List.length_take]; rfl)) ?_; (with_reducible refine (buffer_New.calls 1000 t172 t173 t174 w _ ?side1 A11.out).mono ?_); (case side1 => repeat (first | (with_reducible first | exact HB.out | apply below_alloc | apply pw_below_drewN | apply below_drew1) | exact HB.out)); rintro e w13 ⟨g175, rfl, hi, hb, hb2⟩; refine ⟨_, rfl, ?_⟩; have n0_ := Aside0.mk (hb); have n1_ := Aside0.mk (hi); clear HB; have HB := n0_; have HI175 := n1_; clear n0_ n1_; (try clear hb); (try clear hb2); (try clear hk); (try clear hi)))
        (try simp only [Act.put, List.setIfInBounds_toArray, List.set_cons_zero, List.set_cons_succ])
        go_cut [54] (fun v54 wc => ∃ (kq : Nat) (x54_11 : Bool) (x176000_11 : ByteArray) (x176001_11 : Int) (x176002_11 : Bool), v54 = .bool x54_11 ∧ Aside0 (bywashlaw13_BufferEnds.j1 kq a0 a2 x54_11 x176000_11 x176001_11 x176002_11 = some r) ∧ Aside0 (kq ≤ kj3) ∧ Aside0 (IsS38 w wc g175 x176000_11 x176001_11 x176002_11) ∧ Aside0 (Below w.heap.size w wc))
        case first =>
          have H := HC12.out
          clear HC12
          replace H := Option.bind_eq_some_iff.mp H
          obtain ⟨⟨t176, t177, t178, t179⟩, A140, H⟩ := H
          replace H : (if t176 = true then ((buffer_Buffer_Ended.f t177 t178 t179).bind fun bt180 => (if bt180.1 = true then (bywashlaw13_BufferEnds.j1 kj3 a0 a2 true bt180.2.1 bt180.2.2.1 bt180.2.2.2) else ((buffer_Buffer_End.f bt180.2.1 bt180.2.2.1 bt180.2.2.2).bind fun bt184 => (if bt184.1 = true then ((buffer_Buffer_End.f bt184.2.1 bt184.2.2.1 bt184.2.2.2).bind fun bt188 => (if bt188.1 = true then (bywashlaw13_BufferEnds.j1 kj3 a0 a2 true bt188.2.1 bt188.2.2.1 bt188.2.2.2) else ((buffer_Buffer_Put.f bt188.2.1 bt188.2.2.1 bt188.2.2.2 a1).bind fun bt192 => (if bt192.1 = true then (bywashlaw13_BufferEnds.j1 kj3 a0 a2 true bt192.2.1 bt192.2.2.1 bt192.2.2.2) else ((buffer_Buffer_Done.f bt192.2.1 bt192.2.2.1 bt192.2.2.2).bind fun bt196 => (if bt196.1 = true then (if a0.toList = ([] : List UInt8) then (bywashlaw13_BufferEnds.j1 kj3 a0 a2 false bt196.2.1 bt196.2.2.1 bt196.2.2.2) else (bywashlaw13_BufferEnds.j1 kj3 a0 a2 true bt196.2.1 bt196.2.2.1 bt196.2.2.2)) else (if a0.toList = ([] : List UInt8) then (bywashlaw13_BufferEnds.j1 kj3 a0 a2 true bt196.2.1 bt196.2.2.1 bt196.2.2.2) else (bywashlaw13_BufferEnds.j1 kj3 a0 a2 false bt196.2.1 bt196.2.2.1 bt196.2.2.2)))))))) else (bywashlaw13_BufferEnds.j1 kj3 a0 a2 true bt184.2.1 bt184.2.2.1 bt184.2.2.2))))) else (bywashlaw13_BufferEnds.j1 kj3 a0 a2 true t177 t178 t179)) = some r := H
          have A14 := Aside0.mk A140
          clear A140
          by_cases c15 : t176 = true
          · subst c15
            have H1 : ((buffer_Buffer_Ended.f t177 t178 t179).bind fun bt180 => (if bt180.1 = true then (bywashlaw13_BufferEnds.j1 kj3 a0 a2 true bt180.2.1 bt180.2.2.1 bt180.2.2.2) else ((buffer_Buffer_End.f bt180.2.1 bt180.2.2.1 bt180.2.2.2).bind fun bt184 => (if bt184.1 = true then ((buffer_Buffer_End.f bt184.2.1 bt184.2.2.1 bt184.2.2.2).bind fun bt188 => (if bt188.1 = true then (bywashlaw13_BufferEnds.j1 kj3 a0 a2 true bt188.2.1 bt188.2.2.1 bt188.2.2.2) else ((buffer_Buffer_Put.f bt188.2.1 bt188.2.2.1 bt188.2.2.2 a1).bind fun bt192 => (if bt192.1 = true then (bywashlaw13_BufferEnds.j1 kj3 a0 a2 true bt192.2.1 bt192.2.2.1 bt192.2.2.2) else ((buffer_Buffer_Done.f bt192.2.1 bt192.2.2.1 bt192.2.2.2).bind fun bt196 => (if bt196.1 = true then (if a0.toList = ([] : List UInt8) then (bywashlaw13_BufferEnds.j1 kj3 a0 a2 false bt196.2.1 bt196.2.2.1 bt196.2.2.2) else (bywashlaw13_BufferEnds.j1 kj3 a0 a2 true bt196.2.1 bt196.2.2.1 bt196.2.2.2)) else (if a0.toList = ([] : List UInt8) then (bywashlaw13_BufferEnds.j1 kj3 a0 a2 true bt196.2.1 bt196.2.2.1 bt196.2.2.2) else (bywashlaw13_BufferEnds.j1 kj3 a0 a2 false bt196.2.1 bt196.2.2.1 bt196.2.2.2)))))))) else (bywashlaw13_BufferEnds.j1 kj3 a0 a2 true bt184.2.1 bt184.2.2.1 bt184.2.2.2))))) = some r := by rw [if_pos rfl] at H; exact H
            clear H
            have H := H1
            clear H1
            replace H := Option.bind_eq_some_iff.mp H
            obtain ⟨⟨t180, t181, t182, t183⟩, A160, H⟩ := H
            replace H : (if t180 = true then (bywashlaw13_BufferEnds.j1 kj3 a0 a2 true t181 t182 t183) else ((buffer_Buffer_End.f t181 t182 t183).bind fun bt184 => (if bt184.1 = true then ((buffer_Buffer_End.f bt184.2.1 bt184.2.2.1 bt184.2.2.2).bind fun bt188 => (if bt188.1 = true then (bywashlaw13_BufferEnds.j1 kj3 a0 a2 true bt188.2.1 bt188.2.2.1 bt188.2.2.2) else ((buffer_Buffer_Put.f bt188.2.1 bt188.2.2.1 bt188.2.2.2 a1).bind fun bt192 => (if bt192.1 = true then (bywashlaw13_BufferEnds.j1 kj3 a0 a2 true bt192.2.1 bt192.2.2.1 bt192.2.2.2) else ((buffer_Buffer_Done.f bt192.2.1 bt192.2.2.1 bt192.2.2.2).bind fun bt196 => (if bt196.1 = true then (if a0.toList = ([] : List UInt8) then (bywashlaw13_BufferEnds.j1 kj3 a0 a2 false bt196.2.1 bt196.2.2.1 bt196.2.2.2) else (bywashlaw13_BufferEnds.j1 kj3 a0 a2 true bt196.2.1 bt196.2.2.1 bt196.2.2.2)) else (if a0.toList = ([] : List UInt8) then (bywashlaw13_BufferEnds.j1 kj3 a0 a2 true bt196.2.1 bt196.2.2.1 bt196.2.2.2) else (bywashlaw13_BufferEnds.j1 kj3 a0 a2 false bt196.2.1 bt196.2.2.1 bt196.2.2.2)))))))) else (bywashlaw13_BufferEnds.j1 kj3 a0 a2 true bt184.2.1 bt184.2.2.1 bt184.2.2.2)))) = some r := H
            have A16 := Aside0.mk A160
            clear A160
            by_cases c17 : t180 = true
            · subst c17
              have H1 : (bywashlaw13_BufferEnds.j1 kj3 a0 a2 true t181 t182 t183) = some r := by rw [if_pos rfl] at H; exact H
              clear H
              have H := H1
              clear H1
              have H' := Aside0.mk H
              clear H
              go_wp2_with (first | (go_at_call 9; (with_reducible refine (buffer_Buffer_Put.calls g175 t172 t173 t174 a0 true t177 t178 t179 w _ ?side1 ?side2 A14.out).mono ?_); (case side1 => repeat (first | (with_reducible first | exact HI175.out | apply IsS38.alloc | apply IsS38.drewN | apply IsS38.drew | apply IsS38.set_0 | apply IsS38.set_1 | apply IsS38.set_2) | exact HI175.out)); (case side2 => repeat (first | (with_reducible first | exact HB.out | apply below_alloc | apply pw_below_drewN | apply below_drew1 | refine below_set ?_ (IsS38.ge HI175.out)) | exact HB.out)); rintro e w18 ⟨rfl, hi, hb, hk⟩; have n0_ := Aside0.mk (hb); have n1_ := Aside0.mk (hi); clear HB; clear HI175; have HB := n0_; have HI175 := n1_; clear n0_ n1_; (try clear hb); (try clear hb2); (try clear hk); (try clear hi)) | (go_at_call 14; (with_reducible refine (buffer_Buffer_Ended.calls g175 t177 t178 t179 true t181 t182 t183 w _ ?side1 ?side2 A16.out).mono ?_); (case side1 => repeat (first | (with_reducible first | exact HI175.out | apply IsS38.alloc | apply IsS38.drewN | apply IsS38.drew | apply IsS38.set_0 | apply IsS38.set_1 | apply IsS38.set_2) | exact HI175.out)); (case side2 => repeat (first | (with_reducible first | exact HB.out | apply below_alloc | apply pw_below_drewN | apply below_drew1 | refine below_set ?_ (IsS38.ge HI175.out)) | exact HB.out)); rintro e w19 ⟨rfl, hi, hb, hk⟩; have n0_ := Aside0.mk (hb); have n1_ := Aside0.mk (hi); clear HB; clear HI175; have HB := n0_; have HI175 := n1_; clear n0_ n1_; (try clear hb); (try clear hb2); (try clear hk); (try clear hi)))
              go_meet
              case rel => exact ⟨_, (true), (t181), (t182), (t183), (by first | rfl | (simp; done) | (simp [*]; done)), H', ⟨by have := HJ3.out; first | omega | exact Nat.le_refl _⟩, ⟨by repeat (first | (with_reducible first | exact HI175.out | apply IsS38.alloc | apply IsS38.drewN | apply IsS38.drew | apply IsS38.set_0 | apply IsS38.set_1 | apply IsS38.set_2) | exact HI175.out)⟩, ⟨by repeat (first | (with_reducible first | exact HB.out | apply below_alloc | apply pw_below_drewN | apply below_drew1 | refine below_set ?_ (IsS38.ge HI175.out)) | exact HB.out)⟩⟩
            · replace c17 := Bool.eq_false_iff.mpr c17
              subst c17
              have H1 : ((buffer_Buffer_End.f t181 t182 t183).bind fun bt184 => (if bt184.1 = true then ((buffer_Buffer_End.f bt184.2.1 bt184.2.2.1 bt184.2.2.2).bind fun bt188 => (if bt188.1 = true then (bywashlaw13_BufferEnds.j1 kj3 a0 a2 true bt188.2.1 bt188.2.2.1 bt188.2.2.2) else ((buffer_Buffer_Put.f bt188.2.1 bt188.2.2.1 bt188.2.2.2 a1).bind fun bt192 => (if bt192.1 = true then (bywashlaw13_BufferEnds.j1 kj3 a0 a2 true bt192.2.1 bt192.2.2.1 bt192.2.2.2) else ((buffer_Buffer_Done.f bt192.2.1 bt192.2.2.1 bt192.2.2.2).bind fun bt196 => (if bt196.1 = true then (if a0.toList = ([] : List UInt8) then (bywashlaw13_BufferEnds.j1 kj3 a0 a2 false bt196.2.1 bt196.2.2.1 bt196.2.2.2) else (bywashlaw13_BufferEnds.j1 kj3 a0 a2 true bt196.2.1 bt196.2.2.1 bt196.2.2.2)) else (if a0.toList = ([] : List UInt8) then (bywashlaw13_BufferEnds.j1 kj3 a0 a2 true bt196.2.1 bt196.2.2.1 bt196.2.2.2) else (bywashlaw13_BufferEnds.j1 kj3 a0 a2 false bt196.2.1 bt196.2.2.1 bt196.2.2.2)))))))) else (bywashlaw13_BufferEnds.j1 kj3 a0 a2 true bt184.2.1 bt184.2.2.1 bt184.2.2.2))) = some r := by rw [if_neg (show ¬ (false = true) by decide)] at H; exact H
              clear H
              have H := H1
              clear H1
              replace H := Option.bind_eq_some_iff.mp H
              obtain ⟨⟨t184, t185, t186, t187⟩, A200, H⟩ := H
              replace H : (if t184 = true then ((buffer_Buffer_End.f t185 t186 t187).bind fun bt188 => (if bt188.1 = true then (bywashlaw13_BufferEnds.j1 kj3 a0 a2 true bt188.2.1 bt188.2.2.1 bt188.2.2.2) else ((buffer_Buffer_Put.f bt188.2.1 bt188.2.2.1 bt188.2.2.2 a1).bind fun bt192 => (if bt192.1 = true then (bywashlaw13_BufferEnds.j1 kj3 a0 a2 true bt192.2.1 bt192.2.2.1 bt192.2.2.2) else ((buffer_Buffer_Done.f bt192.2.1 bt192.2.2.1 bt192.2.2.2).bind fun bt196 => (if bt196.1 = true then (if a0.toList = ([] : List UInt8) then (bywashlaw13_BufferEnds.j1 kj3 a0 a2 false bt196.2.1 bt196.2.2.1 bt196.2.2.2) else (bywashlaw13_BufferEnds.j1 kj3 a0 a2 true bt196.2.1 bt196.2.2.1 bt196.2.2.2)) else (if a0.toList = ([] : List UInt8) then (bywashlaw13_BufferEnds.j1 kj3 a0 a2 true bt196.2.1 bt196.2.2.1 bt196.2.2.2) else (bywashlaw13_BufferEnds.j1 kj3 a0 a2 false bt196.2.1 bt196.2.2.1 bt196.2.2.2)))))))) else (bywashlaw13_BufferEnds.j1 kj3 a0 a2 true t185 t186 t187)) = some r := H
              have A20 := Aside0.mk A200
              clear A200
              by_cases c21 : t184 = true
              · subst c21
                have H1 : ((buffer_Buffer_End.f t185 t186 t187).bind fun bt188 => (if bt188.1 = true then (bywashlaw13_BufferEnds.j1 kj3 a0 a2 true bt188.2.1 bt188.2.2.1 bt188.2.2.2) else ((buffer_Buffer_Put.f bt188.2.1 bt188.2.2.1 bt188.2.2.2 a1).bind fun bt192 => (if bt192.1 = true then (bywashlaw13_BufferEnds.j1 kj3 a0 a2 true bt192.2.1 bt192.2.2.1 bt192.2.2.2) else ((buffer_Buffer_Done.f bt192.2.1 bt192.2.2.1 bt192.2.2.2).bind fun bt196 => (if bt196.1 = true then (if a0.toList = ([] : List UInt8) then (bywashlaw13_BufferEnds.j1 kj3 a0 a2 false bt196.2.1 bt196.2.2.1 bt196.2.2.2) else (bywashlaw13_BufferEnds.j1 kj3 a0 a2 true bt196.2.1 bt196.2.2.1 bt196.2.2.2)) else (if a0.toList = ([] : List UInt8) then (bywashlaw13_BufferEnds.j1 kj3 a0 a2 true bt196.2.1 bt196.2.2.1 bt196.2.2.2) else (bywashlaw13_BufferEnds.j1 kj3 a0 a2 false bt196.2.1 bt196.2.2.1 bt196.2.2.2)))))))) = some r := by rw [if_pos rfl] at H; exact H
                clear H
                have H := H1
                clear H1
                replace H := Option.bind_eq_some_iff.mp H
                obtain ⟨⟨t188, t189, t190, t191⟩, A220, H⟩ := H
                replace H : (if t188 = true then (bywashlaw13_BufferEnds.j1 kj3 a0 a2 true t189 t190 t191) else ((buffer_Buffer_Put.f t189 t190 t191 a1).bind fun bt192 => (if bt192.1 = true then (bywashlaw13_BufferEnds.j1 kj3 a0 a2 true bt192.2.1 bt192.2.2.1 bt192.2.2.2) else ((buffer_Buffer_Done.f bt192.2.1 bt192.2.2.1 bt192.2.2.2).bind fun bt196 => (if bt196.1 = true then (if a0.toList = ([] : List UInt8) then (bywashlaw13_BufferEnds.j1 kj3 a0 a2 false bt196.2.1 bt196.2.2.1 bt196.2.2.2) else (bywashlaw13_BufferEnds.j1 kj3 a0 a2 true bt196.2.1 bt196.2.2.1 bt196.2.2.2)) else (if a0.toList = ([] : List UInt8) then (bywashlaw13_BufferEnds.j1 kj3 a0 a2 true bt196.2.1 bt196.2.2.1 bt196.2.2.2) else (bywashlaw13_BufferEnds.j1 kj3 a0 a2 false bt196.2.1 bt196.2.2.1 bt196.2.2.2))))))) = some r := H
                have A22 := Aside0.mk A220
                clear A220
                by_cases c23 : t188 = true
                · subst c23
                  have H1 : (bywashlaw13_BufferEnds.j1 kj3 a0 a2 true t189 t190 t191) = some r := by rw [if_pos rfl] at H; exact H
                  clear H
                  have H := H1
                  clear H1
                  have H' := Aside0.mk H
                  clear H
                  go_wp2_with (first | (go_at_call 9; (with_reducible refine (buffer_Buffer_Put.calls g175 t172 t173 t174 a0 true t177 t178 t179 w _ ?side1 ?side2 A14.out).mono ?_); (case side1 => repeat (first | (with_reducible first | exact HI175.out | apply IsS38.alloc | apply IsS38.drewN | apply IsS38.drew | apply IsS38.set_0 | apply IsS38.set_1 | apply IsS38.set_2) | exact HI175.out)); (case side2 => repeat (first | (with_reducible first | exact HB.out | apply below_alloc | apply pw_below_drewN | apply below_drew1 | refine below_set ?_ (IsS38.ge HI175.out)) | exact HB.out)); rintro e w24 ⟨rfl, hi, hb, hk⟩; have n0_ := Aside0.mk (hb); have n1_ := Aside0.mk (hi); clear HB; clear HI175; have HB := n0_; have HI175 := n1_; clear n0_ n1_; (try clear hb); (try clear hb2); (try clear hk); (try clear hi)) | (go_at_call 14; (with_reducible refine (buffer_Buffer_Ended.calls g175 t177 t178 t179 false t181 t182 t183 w _ ?side1 ?side2 A16.out).mono ?_); (case side1 => repeat (first | (with_reducible first | exact HI175.out | apply IsS38.alloc | apply IsS38.drewN | apply IsS38.drew | apply IsS38.set_0 | apply IsS38.set_1 | apply IsS38.set_2) | exact HI175.out)); (case side2 => repeat (first | (with_reducible first | exact HB.out | apply below_alloc | apply pw_below_drewN | apply below_drew1 | refine below_set ?_ (IsS38.ge HI175.out)) | exact HB.out)); rintro e w25 ⟨rfl, hi, hb, hk⟩; have n0_ := Aside0.mk (hb); have n1_ := Aside0.mk (hi); clear HB; clear HI175; have HB := n0_; have HI175 := n1_; clear n0_ n1_; (try clear hb); (try clear hb2); (try clear hk); (try clear hi)) | (go_at_call 12; (with_reducible refine (buffer_Buffer_End.calls g175 t181 t182 t183 true t185 t186 t187 w _ ?side1 ?side2 A20.out).mono ?_); (case side1 => repeat (first | (with_reducible first | exact HI175.out | apply IsS38.alloc | apply IsS38.drewN | apply IsS38.drew | apply IsS38.set_0 | apply IsS38.set_1 | apply IsS38.set_2) | exact HI175.out)); (case side2 => repeat (first | (with_reducible first | exact HB.out | apply below_alloc | apply pw_below_drewN | apply below_drew1 | refine below_set ?_ (IsS38.ge HI175.out)) | exact HB.out)); rintro e w26 ⟨rfl, hi, hb, hk⟩; have n0_ := Aside0.mk (hb); have n1_ := Aside0.mk (hi); clear HB; clear HI175; have HB := n0_; have HI175 := n1_; clear n0_ n1_; (try clear hb); (try clear hb2); (try clear hk); (try clear hi)) | (go_at_call 12; (with_reducible refine (buffer_Buffer_End.calls g175 t185 t186 t187 true t189 t190 t191 w _ ?side1 ?side2 A22.out).mono ?_); (case side1 => repeat (first | (with_reducible first | exact HI175.out | apply IsS38.alloc | apply IsS38.drewN | apply IsS38.drew | apply IsS38.set_0 | apply IsS38.set_1 | apply IsS38.set_2) | exact HI175.out)); (case side2 => repeat (first | (with_reducible first | exact HB.out | apply below_alloc | apply pw_below_drewN | apply below_drew1 | refine below_set ?_ (IsS38.ge HI175.out)) | exact HB.out)); rintro e w27 ⟨rfl, hi, hb, hk⟩; have n0_ := Aside0.mk (hb); have n1_ := Aside0.mk (hi); clear HB; clear HI175; have HB := n0_; have HI175 := n1_; clear n0_ n1_; (try clear hb); (try clear hb2); (try clear hk); (try clear hi)))
                  go_meet
                  case rel => exact ⟨_, (true), (t189), (t190), (t191), (by first | rfl | (simp; done) | (simp [*]; done)), H', ⟨by have := HJ3.out; first | omega | exact Nat.le_refl _⟩, ⟨by repeat (first | (with_reducible first | exact HI175.out | apply IsS38.alloc | apply IsS38.drewN | apply IsS38.drew | apply IsS38.set_0 | apply IsS38.set_1 | apply IsS38.set_2) | exact HI175.out)⟩, ⟨by repeat (first | (with_reducible first | exact HB.out | apply below_alloc | apply pw_below_drewN | apply below_drew1 | refine below_set ?_ (IsS38.ge HI175.out)) | exact HB.out)⟩⟩
                · replace c23 := Bool.eq_false_iff.mpr c23
                  subst c23
                  have H1 : ((buffer_Buffer_Put.f t189 t190 t191 a1).bind fun bt192 => (if bt192.1 = true then (bywashlaw13_BufferEnds.j1 kj3 a0 a2 true bt192.2.1 bt192.2.2.1 bt192.2.2.2) else ((buffer_Buffer_Done.f bt192.2.1 bt192.2.2.1 bt192.2.2.2).bind fun bt196 => (if bt196.1 = true then (if a0.toList = ([] : List UInt8) then (bywashlaw13_BufferEnds.j1 kj3 a0 a2 false bt196.2.1 bt196.2.2.1 bt196.2.2.2) else (bywashlaw13_BufferEnds.j1 kj3 a0 a2 true bt196.2.1 bt196.2.2.1 bt196.2.2.2)) else (if a0.toList = ([] : List UInt8) then (bywashlaw13_BufferEnds.j1 kj3 a0 a2 true bt196.2.1 bt196.2.2.1 bt196.2.2.2) else (bywashlaw13_BufferEnds.j1 kj3 a0 a2 false bt196.2.1 bt196.2.2.1 bt196.2.2.2)))))) = some r := by rw [if_neg (show ¬ (false = true) by decide)] at H; exact H
                  clear H
                  have H := H1
                  clear H1
                  replace H := Option.bind_eq_some_iff.mp H
                  obtain ⟨⟨t192, t193, t194, t195⟩, A280, H⟩ := H
                  replace H : (if t192 = true then (bywashlaw13_BufferEnds.j1 kj3 a0 a2 true t193 t194 t195) else ((buffer_Buffer_Done.f t193 t194 t195).bind fun bt196 => (if bt196.1 = true then (if a0.toList = ([] : List UInt8) then (bywashlaw13_BufferEnds.j1 kj3 a0 a2 false bt196.2.1 bt196.2.2.1 bt196.2.2.2) else (bywashlaw13_BufferEnds.j1 kj3 a0 a2 true bt196.2.1 bt196.2.2.1 bt196.2.2.2)) else (if a0.toList = ([] : List UInt8) then (bywashlaw13_BufferEnds.j1 kj3 a0 a2 true bt196.2.1 bt196.2.2.1 bt196.2.2.2) else (bywashlaw13_BufferEnds.j1 kj3 a0 a2 false bt196.2.1 bt196.2.2.1 bt196.2.2.2))))) = some r := H
                  have A28 := Aside0.mk A280
                  clear A280
                  by_cases c29 : t192 = true
                  · subst c29
                    have H1 : (bywashlaw13_BufferEnds.j1 kj3 a0 a2 true t193 t194 t195) = some r := by rw [if_pos rfl] at H; exact H
                    clear H
                    have H := H1
                    clear H1
                    have H' := Aside0.mk H
                    clear H
                    go_wp2_with (first | (go_at_call 9; (with_reducible refine (buffer_Buffer_Put.calls g175 t172 t173 t174 a0 true t177 t178 t179 w _ ?side1 ?side2 A14.out).mono ?_); (case side1 => repeat (first | (with_reducible first | exact HI175.out | apply IsS38.alloc | apply IsS38.drewN | apply IsS38.drew | apply IsS38.set_0 | apply IsS38.set_1 | apply IsS38.set_2) | exact HI175.out)); (case side2 => repeat (first | (with_reducible first | exact HB.out | apply below_alloc | apply pw_below_drewN | apply below_drew1 | refine below_set ?_ (IsS38.ge HI175.out)) | exact HB.out)); rintro e w30 ⟨rfl, hi, hb, hk⟩; have n0_ := Aside0.mk (hb); have n1_ := Aside0.mk (hi); clear HB; clear HI175; have HB := n0_; have HI175 := n1_; clear n0_ n1_; (try clear hb); (try clear hb2); (try clear hk); (try clear hi)) | (go_at_call 14; (with_reducible refine (buffer_Buffer_Ended.calls g175 t177 t178 t179 false t181 t182 t183 w _ ?side1 ?side2 A16.out).mono ?_); (case side1 => repeat (first | (with_reducible first | exact HI175.out | apply IsS38.alloc | apply IsS38.drewN | apply IsS38.drew | apply IsS38.set_0 | apply IsS38.set_1 | apply IsS38.set_2) | exact HI175.out)); (case side2 => repeat (first | (with_reducible first | exact HB.out | apply below_alloc | apply pw_below_drewN | apply below_drew1 | refine below_set ?_ (IsS38.ge HI175.out)) | exact HB.out)); rintro e w31 ⟨rfl, hi, hb, hk⟩; have n0_ := Aside0.mk (hb); have n1_ := Aside0.mk (hi); clear HB; clear HI175; have HB := n0_; have HI175 := n1_; clear n0_ n1_; (try clear hb); (try clear hb2); (try clear hk); (try clear hi)) | (go_at_call 12; (with_reducible refine (buffer_Buffer_End.calls g175 t181 t182 t183 true t185 t186 t187 w _ ?side1 ?side2 A20.out).mono ?_); (case side1 => repeat (first | (with_reducible first | exact HI175.out | apply IsS38.alloc | apply IsS38.drewN | apply IsS38.drew | apply IsS38.set_0 | apply IsS38.set_1 | apply IsS38.set_2) | exact HI175.out)); (case side2 => repeat (first | (with_reducible first | exact HB.out | apply below_alloc | apply pw_below_drewN | apply below_drew1 | refine below_set ?_ (IsS38.ge HI175.out)) | exact HB.out)); rintro e w32 ⟨rfl, hi, hb, hk⟩; have n0_ := Aside0.mk (hb); have n1_ := Aside0.mk (hi); clear HB; clear HI175; have HB := n0_; have HI175 := n1_; clear n0_ n1_; (try clear hb); (try clear hb2); (try clear hk); (try clear hi)) | (go_at_call 12; (with_reducible refine (buffer_Buffer_End.calls g175 t185 t186 t187 false t189 t190 t191 w _ ?side1 ?side2 A22.out).mono ?_); (case side1 => repeat (first | (with_reducible first | exact HI175.out | apply IsS38.alloc | apply IsS38.drewN | apply IsS38.drew | apply IsS38.set_0 | apply IsS38.set_1 | apply IsS38.set_2) | exact HI175.out)); (case side2 => repeat (first | (with_reducible first | exact HB.out | apply below_alloc | apply pw_below_drewN | apply below_drew1 | refine below_set ?_ (IsS38.ge HI175.out)) | exact HB.out)); rintro e w33 ⟨rfl, hi, hb, hk⟩; have n0_ := Aside0.mk (hb); have n1_ := Aside0.mk (hi); clear HB; clear HI175; have HB := n0_; have HI175 := n1_; clear n0_ n1_; (try clear hb); (try clear hb2); (try clear hk); (try clear hi)) | (go_at_call 9; (with_reducible refine (buffer_Buffer_Put.calls g175 t189 t190 t191 a1 true t193 t194 t195 w _ ?side1 ?side2 A28.out).mono ?_); (case side1 => repeat (first | (with_reducible first | exact HI175.out | apply IsS38.alloc | apply IsS38.drewN | apply IsS38.drew | apply IsS38.set_0 | apply IsS38.set_1 | apply IsS38.set_2) | exact HI175.out)); (case side2 => repeat (first | (with_reducible first | exact HB.out | apply below_alloc | apply pw_below_drewN | apply below_drew1 | refine below_set ?_ (IsS38.ge HI175.out)) | exact HB.out)); rintro e w34 ⟨rfl, hi, hb, hk⟩; have n0_ := Aside0.mk (hb); have n1_ := Aside0.mk (hi); clear HB; clear HI175; have HB := n0_; have HI175 := n1_; clear n0_ n1_; (try clear hb); (try clear hb2); (try clear hk); (try clear hi)))
                    go_meet
                    case rel => exact ⟨_, (true), (t193), (t194), (t195), (by first | rfl | (simp; done) | (simp [*]; done)), H', ⟨by have := HJ3.out; first | omega | exact Nat.le_refl _⟩, ⟨by repeat (first | (with_reducible first | exact HI175.out | apply IsS38.alloc | apply IsS38.drewN | apply IsS38.drew | apply IsS38.set_0 | apply IsS38.set_1 | apply IsS38.set_2) | exact HI175.out)⟩, ⟨by repeat (first | (with_reducible first | exact HB.out | apply below_alloc | apply pw_below_drewN | apply below_drew1 | refine below_set ?_ (IsS38.ge HI175.out)) | exact HB.out)⟩⟩
                  · replace c29 := Bool.eq_false_iff.mpr c29
                    subst c29
                    have H1 : ((buffer_Buffer_Done.f t193 t194 t195).bind fun bt196 => (if bt196.1 = true then (if a0.toList = ([] : List UInt8) then (bywashlaw13_BufferEnds.j1 kj3 a0 a2 false bt196.2.1 bt196.2.2.1 bt196.2.2.2) else (bywashlaw13_BufferEnds.j1 kj3 a0 a2 true bt196.2.1 bt196.2.2.1 bt196.2.2.2)) else (if a0.toList = ([] : List UInt8) then (bywashlaw13_BufferEnds.j1 kj3 a0 a2 true bt196.2.1 bt196.2.2.1 bt196.2.2.2) else (bywashlaw13_BufferEnds.j1 kj3 a0 a2 false bt196.2.1 bt196.2.2.1 bt196.2.2.2)))) = some r := by rw [if_neg (show ¬ (false = true) by decide)] at H; exact H
                    clear H
                    have H := H1
                    clear H1
                    replace H := Option.bind_eq_some_iff.mp H
                    obtain ⟨⟨t196, t197, t198, t199⟩, A350, H⟩ := H
                    replace H : (if t196 = true then (if a0.toList = ([] : List UInt8) then (bywashlaw13_BufferEnds.j1 kj3 a0 a2 false t197 t198 t199) else (bywashlaw13_BufferEnds.j1 kj3 a0 a2 true t197 t198 t199)) else (if a0.toList = ([] : List UInt8) then (bywashlaw13_BufferEnds.j1 kj3 a0 a2 true t197 t198 t199) else (bywashlaw13_BufferEnds.j1 kj3 a0 a2 false t197 t198 t199))) = some r := H
                    have A35 := Aside0.mk A350
                    clear A350
                    by_cases c36 : t196 = true
                    · subst c36
                      have H1 : (if a0.toList = ([] : List UInt8) then (bywashlaw13_BufferEnds.j1 kj3 a0 a2 false t197 t198 t199) else (bywashlaw13_BufferEnds.j1 kj3 a0 a2 true t197 t198 t199)) = some r := by rw [if_pos rfl] at H; exact H
                      clear H
                      have H := H1
                      clear H1
                      by_cases c37 : a0.toList = ([] : List UInt8)
                      · rw [if_pos c37] at H
                        have c37b0 : (a0.toList == ([] : List UInt8)) = true := beq_iff_eq.mpr c37
                        have c37b1 : (a0.toList != ([] : List UInt8)) = false := bne_eq_false_iff_eq.mpr c37
                        clear c37
                        (first | rw [c37b0] | (simp only [i64_w, i32_w]; rw [c37b0]) | skip)
                        have H' := Aside0.mk H
                        clear H
                        go_wp2_with (first | (go_at_call 9; (with_reducible refine (buffer_Buffer_Put.calls g175 t172 t173 t174 a0 true t177 t178 t179 w _ ?side1 ?side2 A14.out).mono ?_); (case side1 => repeat (first | (with_reducible first | exact HI175.out | apply IsS38.alloc | apply IsS38.drewN | apply IsS38.drew | apply IsS38.set_0 | apply IsS38.set_1 | apply IsS38.set_2) | exact HI175.out)); (case side2 => repeat (first | (with_reducible first | exact HB.out | apply below_alloc | apply pw_below_drewN | apply below_drew1 | refine below_set ?_ (IsS38.ge HI175.out)) | exact HB.out)); rintro e w38 ⟨rfl, hi, hb, hk⟩; have n0_ := Aside0.mk (hb); have n1_ := Aside0.mk (hi); clear HB; clear HI175; have HB := n0_; have HI175 := n1_; clear n0_ n1_; (try clear hb); (try clear hb2); (try clear hk); (try clear hi)) | (go_at_call 14; (with_reducible refine (buffer_Buffer_Ended.calls g175 t177 t178 t179 false t181 t182 t183 w _ ?side1 ?side2 A16.out).mono ?_); (case side1 => repeat (first | (with_reducible first | exact HI175.out | apply IsS38.alloc | apply IsS38.drewN | apply IsS38.drew | apply IsS38.set_0 | apply IsS38.set_1 | apply IsS38.set_2) | exact HI175.out)); (case side2 => repeat (first | (with_reducible first | exact HB.out | apply below_alloc | apply pw_below_drewN | apply below_drew1 | refine below_set ?_ (IsS38.ge HI175.out)) | exact HB.out)); rintro e w39 ⟨rfl, hi, hb, hk⟩; have n0_ := Aside0.mk (hb); have n1_ := Aside0.mk (hi); clear HB; clear HI175; have HB := n0_; have HI175 := n1_; clear n0_ n1_; (try clear hb); (try clear hb2); (try clear hk); (try clear hi)) | (go_at_call 12; (with_reducible refine (buffer_Buffer_End.calls g175 t181 t182 t183 true t185 t186 t187 w _ ?side1 ?side2 A20.out).mono ?_); (case side1 => repeat (first | (with_reducible first | exact HI175.out | apply IsS38.alloc | apply IsS38.drewN | apply IsS38.drew | apply IsS38.set_0 | apply IsS38.set_1 | apply IsS38.set_2) | exact HI175.out)); (case side2 => repeat (first | (with_reducible first | exact HB.out | apply below_alloc | apply pw_below_drewN | apply below_drew1 | refine below_set ?_ (IsS38.ge HI175.out)) | exact HB.out)); rintro e w40 ⟨rfl, hi, hb, hk⟩; have n0_ := Aside0.mk (hb); have n1_ := Aside0.mk (hi); clear HB; clear HI175; have HB := n0_; have HI175 := n1_; clear n0_ n1_; (try clear hb); (try clear hb2); (try clear hk); (try clear hi)) | (go_at_call 12; (with_reducible refine (buffer_Buffer_End.calls g175 t185 t186 t187 false t189 t190 t191 w _ ?side1 ?side2 A22.out).mono ?_); (case side1 => repeat (first | (with_reducible first | exact HI175.out | apply IsS38.alloc | apply IsS38.drewN | apply IsS38.drew | apply IsS38.set_0 | apply IsS38.set_1 | apply IsS38.set_2) | exact HI175.out)); (case side2 => repeat (first | (with_reducible first | exact HB.out | apply below_alloc | apply pw_below_drewN | apply below_drew1 | refine below_set ?_ (IsS38.ge HI175.out)) | exact HB.out)); rintro e w41 ⟨rfl, hi, hb, hk⟩; have n0_ := Aside0.mk (hb); have n1_ := Aside0.mk (hi); clear HB; clear HI175; have HB := n0_; have HI175 := n1_; clear n0_ n1_; (try clear hb); (try clear hb2); (try clear hk); (try clear hi)) | (go_at_call 9; (with_reducible refine (buffer_Buffer_Put.calls g175 t189 t190 t191 a1 false t193 t194 t195 w _ ?side1 ?side2 A28.out).mono ?_); (case side1 => repeat (first | (with_reducible first | exact HI175.out | apply IsS38.alloc | apply IsS38.drewN | apply IsS38.drew | apply IsS38.set_0 | apply IsS38.set_1 | apply IsS38.set_2) | exact HI175.out)); (case side2 => repeat (first | (with_reducible first | exact HB.out | apply below_alloc | apply pw_below_drewN | apply below_drew1 | refine below_set ?_ (IsS38.ge HI175.out)) | exact HB.out)); rintro e w42 ⟨rfl, hi, hb, hk⟩; have n0_ := Aside0.mk (hb); have n1_ := Aside0.mk (hi); clear HB; clear HI175; have HB := n0_; have HI175 := n1_; clear n0_ n1_; (try clear hb); (try clear hb2); (try clear hk); (try clear hi)) | (go_at_call 15; (with_reducible refine (buffer_Buffer_Done.calls g175 t193 t194 t195 true t197 t198 t199 w _ ?side1 ?side2 A35.out).mono ?_); (case side1 => repeat (first | (with_reducible first | exact HI175.out | apply IsS38.alloc | apply IsS38.drewN | apply IsS38.drew | apply IsS38.set_0 | apply IsS38.set_1 | apply IsS38.set_2) | exact HI175.out)); (case side2 => repeat (first | (with_reducible first | exact HB.out | apply below_alloc | apply pw_below_drewN | apply below_drew1 | refine below_set ?_ (IsS38.ge HI175.out)) | exact HB.out)); rintro e w43 ⟨rfl, hi, hb, hk⟩; have n0_ := Aside0.mk (hb); have n1_ := Aside0.mk (hi); clear HB; clear HI175; have HB := n0_; have HI175 := n1_; clear n0_ n1_; (try clear hb); (try clear hb2); (try clear hk); (try clear hi)))
                        go_meet
                        case rel => exact ⟨_, (false), (t197), (t198), (t199), (by first | rfl | (simp; done) | (simp [*]; done)), H', ⟨by have := HJ3.out; first | omega | exact Nat.le_refl _⟩, ⟨by repeat (first | (with_reducible first | exact HI175.out | apply IsS38.alloc | apply IsS38.drewN | apply IsS38.drew | apply IsS38.set_0 | apply IsS38.set_1 | apply IsS38.set_2) | exact HI175.out)⟩, ⟨by repeat (first | (with_reducible first | exact HB.out | apply below_alloc | apply pw_below_drewN | apply below_drew1 | refine below_set ?_ (IsS38.ge HI175.out)) | exact HB.out)⟩⟩
                      · rw [if_neg c37] at H
                        have c37b0 : (a0.toList == ([] : List UInt8)) = false := beq_eq_false_iff_ne.mpr c37
                        have c37b1 : (a0.toList != ([] : List UInt8)) = true := bne_iff_ne.mpr c37
                        (first | rw [c37b0] | (simp only [i64_w, i32_w]; rw [c37b0]) | skip)
                        have H' := Aside0.mk H
                        clear H
                        go_wp2_with (first | (go_at_call 9; (with_reducible refine (buffer_Buffer_Put.calls g175 t172 t173 t174 a0 true t177 t178 t179 w _ ?side1 ?side2 A14.out).mono ?_); (case side1 => repeat (first | (with_reducible first | exact HI175.out | apply IsS38.alloc | apply IsS38.drewN | apply IsS38.drew | apply IsS38.set_0 | apply IsS38.set_1 | apply IsS38.set_2) | exact HI175.out)); (case side2 => repeat (first | (with_reducible first | exact HB.out | apply below_alloc | apply pw_below_drewN | apply below_drew1 | refine below_set ?_ (IsS38.ge HI175.out)) | exact HB.out)); rintro e w44 ⟨rfl, hi, hb, hk⟩; have n0_ := Aside0.mk (hb); have n1_ := Aside0.mk (hi); clear HB; clear HI175; have HB := n0_; have HI175 := n1_; clear n0_ n1_; (try clear hb); (try clear hb2); (try clear hk); (try clear hi)) | (go_at_call 14; (with_reducible refine (buffer_Buffer_Ended.calls g175 t177 t178 t179 false t181 t182 t183 w _ ?side1 ?side2 A16.out).mono ?_); (case side1 => repeat (first | (with_reducible first | exact HI175.out | apply IsS38.alloc | apply IsS38.drewN | apply IsS38.drew | apply IsS38.set_0 | apply IsS38.set_1 | apply IsS38.set_2) | exact HI175.out)); (case side2 => repeat (first | (with_reducible first | exact HB.out | apply below_alloc | apply pw_below_drewN | apply below_drew1 | refine below_set ?_ (IsS38.ge HI175.out)) | exact HB.out)); rintro e w45 ⟨rfl, hi, hb, hk⟩; have n0_ := Aside0.mk (hb); have n1_ := Aside0.mk (hi); clear HB; clear HI175; have HB := n0_; have HI175 := n1_; clear n0_ n1_; (try clear hb); (try clear hb2); (try clear hk); (try clear hi)) | (go_at_call 12; (with_reducible refine (buffer_Buffer_End.calls g175 t181 t182 t183 true t185 t186 t187 w _ ?side1 ?side2 A20.out).mono ?_); (case side1 => repeat (first | (with_reducible first | exact HI175.out | apply IsS38.alloc | apply IsS38.drewN | apply IsS38.drew | apply IsS38.set_0 | apply IsS38.set_1 | apply IsS38.set_2) | exact HI175.out)); (case side2 => repeat (first | (with_reducible first | exact HB.out | apply below_alloc | apply pw_below_drewN | apply below_drew1 | refine below_set ?_ (IsS38.ge HI175.out)) | exact HB.out)); rintro e w46 ⟨rfl, hi, hb, hk⟩; have n0_ := Aside0.mk (hb); have n1_ := Aside0.mk (hi); clear HB; clear HI175; have HB := n0_; have HI175 := n1_; clear n0_ n1_; (try clear hb); (try clear hb2); (try clear hk); (try clear hi)) | (go_at_call 12; (with_reducible refine (buffer_Buffer_End.calls g175 t185 t186 t187 false t189 t190 t191 w _ ?side1 ?side2 A22.out).mono ?_); (case side1 => repeat (first | (with_reducible first | exact HI175.out | apply IsS38.alloc | apply IsS38.drewN | apply IsS38.drew | apply IsS38.set_0 | apply IsS38.set_1 | apply IsS38.set_2) | exact HI175.out)); (case side2 => repeat (first | (with_reducible first | exact HB.out | apply below_alloc | apply pw_below_drewN | apply below_drew1 | refine below_set ?_ (IsS38.ge HI175.out)) | exact HB.out)); rintro e w47 ⟨rfl, hi, hb, hk⟩; have n0_ := Aside0.mk (hb); have n1_ := Aside0.mk (hi); clear HB; clear HI175; have HB := n0_; have HI175 := n1_; clear n0_ n1_; (try clear hb); (try clear hb2); (try clear hk); (try clear hi)) | (go_at_call 9; (with_reducible refine (buffer_Buffer_Put.calls g175 t189 t190 t191 a1 false t193 t194 t195 w _ ?side1 ?side2 A28.out).mono ?_); (case side1 => repeat (first | (with_reducible first | exact HI175.out | apply IsS38.alloc | apply IsS38.drewN | apply IsS38.drew | apply IsS38.set_0 | apply IsS38.set_1 | apply IsS38.set_2) | exact HI175.out)); (case side2 => repeat (first | (with_reducible first | exact HB.out | apply below_alloc | apply pw_below_drewN | apply below_drew1 | refine below_set ?_ (IsS38.ge HI175.out)) | exact HB.out)); rintro e w48 ⟨rfl, hi, hb, hk⟩; have n0_ := Aside0.mk (hb); have n1_ := Aside0.mk (hi); clear HB; clear HI175; have HB := n0_; have HI175 := n1_; clear n0_ n1_; (try clear hb); (try clear hb2); (try clear hk); (try clear hi)) | (go_at_call 15; (with_reducible refine (buffer_Buffer_Done.calls g175 t193 t194 t195 true t197 t198 t199 w _ ?side1 ?side2 A35.out).mono ?_); (case side1 => repeat (first | (with_reducible first | exact HI175.out | apply IsS38.alloc | apply IsS38.drewN | apply IsS38.drew | apply IsS38.set_0 | apply IsS38.set_1 | apply IsS38.set_2) | exact HI175.out)); (case side2 => repeat (first | (with_reducible first | exact HB.out | apply below_alloc | apply pw_below_drewN | apply below_drew1 | refine below_set ?_ (IsS38.ge HI175.out)) | exact HB.out)); rintro e w49 ⟨rfl, hi, hb, hk⟩; have n0_ := Aside0.mk (hb); have n1_ := Aside0.mk (hi); clear HB; clear HI175; have HB := n0_; have HI175 := n1_; clear n0_ n1_; (try clear hb); (try clear hb2); (try clear hk); (try clear hi)))
                        go_meet
                        case rel => exact ⟨_, (true), (t197), (t198), (t199), (by first | rfl | (simp; done) | (simp [*]; done)), H', ⟨by have := HJ3.out; first | omega | exact Nat.le_refl _⟩, ⟨by repeat (first | (with_reducible first | exact HI175.out | apply IsS38.alloc | apply IsS38.drewN | apply IsS38.drew | apply IsS38.set_0 | apply IsS38.set_1 | apply IsS38.set_2) | exact HI175.out)⟩, ⟨by repeat (first | (with_reducible first | exact HB.out | apply below_alloc | apply pw_below_drewN | apply below_drew1 | refine below_set ?_ (IsS38.ge HI175.out)) | exact HB.out)⟩⟩
                    · replace c36 := Bool.eq_false_iff.mpr c36
                      subst c36
                      have H1 : (if a0.toList = ([] : List UInt8) then (bywashlaw13_BufferEnds.j1 kj3 a0 a2 true t197 t198 t199) else (bywashlaw13_BufferEnds.j1 kj3 a0 a2 false t197 t198 t199)) = some r := by rw [if_neg (show ¬ (false = true) by decide)] at H; exact H
                      clear H
                      have H := H1
                      clear H1
                      by_cases c50 : a0.toList = ([] : List UInt8)
                      · rw [if_pos c50] at H
                        have c50b0 : (a0.toList == ([] : List UInt8)) = true := beq_iff_eq.mpr c50
                        have c50b1 : (a0.toList != ([] : List UInt8)) = false := bne_eq_false_iff_eq.mpr c50
                        clear c50
                        have H' := Aside0.mk H
                        clear H
                        go_wp2_with (first | (go_at_call 9; (with_reducible refine (buffer_Buffer_Put.calls g175 t172 t173 t174 a0 true t177 t178 t179 w _ ?side1 ?side2 A14.out).mono ?_); (case side1 => repeat (first | (with_reducible first | exact HI175.out | apply IsS38.alloc | apply IsS38.drewN | apply IsS38.drew | apply IsS38.set_0 | apply IsS38.set_1 | apply IsS38.set_2) | exact HI175.out)); (case side2 => repeat (first | (with_reducible first | exact HB.out | apply below_alloc | apply pw_below_drewN | apply below_drew1 | refine below_set ?_ (IsS38.ge HI175.out)) | exact HB.out)); rintro e w51 ⟨rfl, hi, hb, hk⟩; have n0_ := Aside0.mk (hb); have n1_ := Aside0.mk (hi); clear HB; clear HI175; have HB := n0_; have HI175 := n1_; clear n0_ n1_; (try clear hb); (try clear hb2); (try clear hk); (try clear hi)) | (go_at_call 14; (with_reducible refine (buffer_Buffer_Ended.calls g175 t177 t178 t179 false t181 t182 t183 w _ ?side1 ?side2 A16.out).mono ?_); (case side1 => repeat (first | (with_reducible first | exact HI175.out | apply IsS38.alloc | apply IsS38.drewN | apply IsS38.drew | apply IsS38.set_0 | apply IsS38.set_1 | apply IsS38.set_2) | exact HI175.out)); (case side2 => repeat (first | (with_reducible first | exact HB.out | apply below_alloc | apply pw_below_drewN | apply below_drew1 | refine below_set ?_ (IsS38.ge HI175.out)) | exact HB.out)); rintro e w52 ⟨rfl, hi, hb, hk⟩; have n0_ := Aside0.mk (hb); have n1_ := Aside0.mk (hi); clear HB; clear HI175; have HB := n0_; have HI175 := n1_; clear n0_ n1_; (try clear hb); (try clear hb2); (try clear hk); (try clear hi)) | (go_at_call 12; (with_reducible refine (buffer_Buffer_End.calls g175 t181 t182 t183 true t185 t186 t187 w _ ?side1 ?side2 A20.out).mono ?_); (case side1 => repeat (first | (with_reducible first | exact HI175.out | apply IsS38.alloc | apply IsS38.drewN | apply IsS38.drew | apply IsS38.set_0 | apply IsS38.set_1 | apply IsS38.set_2) | exact HI175.out)); (case side2 => repeat (first | (with_reducible first | exact HB.out | apply below_alloc | apply pw_below_drewN | apply below_drew1 | refine below_set ?_ (IsS38.ge HI175.out)) | exact HB.out)); rintro e w53 ⟨rfl, hi, hb, hk⟩; have n0_ := Aside0.mk (hb); have n1_ := Aside0.mk (hi); clear HB; clear HI175; have HB := n0_; have HI175 := n1_; clear n0_ n1_; (try clear hb); (try clear hb2); (try clear hk); (try clear hi)) | (go_at_call 12; (with_reducible refine (buffer_Buffer_End.calls g175 t185 t186 t187 false t189 t190 t191 w _ ?side1 ?side2 A22.out).mono ?_); (case side1 => repeat (first | (with_reducible first | exact HI175.out | apply IsS38.alloc | apply IsS38.drewN | apply IsS38.drew | apply IsS38.set_0 | apply IsS38.set_1 | apply IsS38.set_2) | exact HI175.out)); (case side2 => repeat (first | (with_reducible first | exact HB.out | apply below_alloc | apply pw_below_drewN | apply below_drew1 | refine below_set ?_ (IsS38.ge HI175.out)) | exact HB.out)); rintro e w54 ⟨rfl, hi, hb, hk⟩; have n0_ := Aside0.mk (hb); have n1_ := Aside0.mk (hi); clear HB; clear HI175; have HB := n0_; have HI175 := n1_; clear n0_ n1_; (try clear hb); (try clear hb2); (try clear hk); (try clear hi)) | (go_at_call 9; (with_reducible refine (buffer_Buffer_Put.calls g175 t189 t190 t191 a1 false t193 t194 t195 w _ ?side1 ?side2 A28.out).mono ?_); (case side1 => repeat (first | (with_reducible first | exact HI175.out | apply IsS38.alloc | apply IsS38.drewN | apply IsS38.drew | apply IsS38.set_0 | apply IsS38.set_1 | apply IsS38.set_2) | exact HI175.out)); (case side2 => repeat (first | (with_reducible first | exact HB.out | apply below_alloc | apply pw_below_drewN | apply below_drew1 | refine below_set ?_ (IsS38.ge HI175.out)) | exact HB.out)); rintro e w55 ⟨rfl, hi, hb, hk⟩; have n0_ := Aside0.mk (hb); have n1_ := Aside0.mk (hi); clear HB; clear HI175; have HB := n0_; have HI175 := n1_; clear n0_ n1_; (try clear hb); (try clear hb2); (try clear hk); (try clear hi)) | (go_at_call 15; (with_reducible refine (buffer_Buffer_Done.calls g175 t193 t194 t195 false t197 t198 t199 w _ ?side1 ?side2 A35.out).mono ?_); (case side1 => repeat (first | (with_reducible first | exact HI175.out | apply IsS38.alloc | apply IsS38.drewN | apply IsS38.drew | apply IsS38.set_0 | apply IsS38.set_1 | apply IsS38.set_2) | exact HI175.out)); (case side2 => repeat (first | (with_reducible first | exact HB.out | apply below_alloc | apply pw_below_drewN | apply below_drew1 | refine below_set ?_ (IsS38.ge HI175.out)) | exact HB.out)); rintro e w56 ⟨rfl, hi, hb, hk⟩; have n0_ := Aside0.mk (hb); have n1_ := Aside0.mk (hi); clear HB; clear HI175; have HB := n0_; have HI175 := n1_; clear n0_ n1_; (try clear hb); (try clear hb2); (try clear hk); (try clear hi)))
                        go_meet
                        case rel => exact ⟨_, (true), (t197), (t198), (t199), (by first | rfl | (simp; done) | (simp [*]; done)), H', ⟨by have := HJ3.out; first | omega | exact Nat.le_refl _⟩, ⟨by repeat (first | (with_reducible first | exact HI175.out | apply IsS38.alloc | apply IsS38.drewN | apply IsS38.drew | apply IsS38.set_0 | apply IsS38.set_1 | apply IsS38.set_2) | exact HI175.out)⟩, ⟨by repeat (first | (with_reducible first | exact HB.out | apply below_alloc | apply pw_below_drewN | apply below_drew1 | refine below_set ?_ (IsS38.ge HI175.out)) | exact HB.out)⟩⟩
                      · rw [if_neg c50] at H
                        have c50b0 : (a0.toList == ([] : List UInt8)) = false := beq_eq_false_iff_ne.mpr c50
                        have c50b1 : (a0.toList != ([] : List UInt8)) = true := bne_iff_ne.mpr c50
                        have H' := Aside0.mk H
                        clear H
                        go_wp2_with (first | (go_at_call 9; (with_reducible refine (buffer_Buffer_Put.calls g175 t172 t173 t174 a0 true t177 t178 t179 w _ ?side1 ?side2 A14.out).mono ?_); (case side1 => repeat (first | (with_reducible first | exact HI175.out | apply IsS38.alloc | apply IsS38.drewN | apply IsS38.drew | apply IsS38.set_0 | apply IsS38.set_1 | apply IsS38.set_2) | exact HI175.out)); (case side2 => repeat (first | (with_reducible first | exact HB.out | apply below_alloc | apply pw_below_drewN | apply below_drew1 | refine below_set ?_ (IsS38.ge HI175.out)) | exact HB.out)); rintro e w57 ⟨rfl, hi, hb, hk⟩; have n0_ := Aside0.mk (hb); have n1_ := Aside0.mk (hi); clear HB; clear HI175; have HB := n0_; have HI175 := n1_; clear n0_ n1_; (try clear hb); (try clear hb2); (try clear hk); (try clear hi)) | (go_at_call 14; (with_reducible refine (buffer_Buffer_Ended.calls g175 t177 t178 t179 false t181 t182 t183 w _ ?side1 ?side2 A16.out).mono ?_); (case side1 => repeat (first | (with_reducible first | exact HI175.out | apply IsS38.alloc | apply IsS38.drewN | apply IsS38.drew | apply IsS38.set_0 | apply IsS38.set_1 | apply IsS38.set_2) | exact HI175.out)); (case side2 => repeat (first | (with_reducible first | exact HB.out | apply below_alloc | apply pw_below_drewN | apply below_drew1 | refine below_set ?_ (IsS38.ge HI175.out)) | exact HB.out)); rintro e w58 ⟨rfl, hi, hb, hk⟩; have n0_ := Aside0.mk (hb); have n1_ := Aside0.mk (hi); clear HB; clear HI175; have HB := n0_; have HI175 := n1_; clear n0_ n1_; (try clear hb); (try clear hb2); (try clear hk); (try clear hi)) | (go_at_call 12; (with_reducible refine (buffer_Buffer_End.calls g175 t181 t182 t183 true t185 t186 t187 w _ ?side1 ?side2 A20.out).mono ?_); (case side1 => repeat (first | (with_reducible first | exact HI175.out | apply IsS38.alloc | apply IsS38.drewN | apply IsS38.drew | apply IsS38.set_0 | apply IsS38.set_1 | apply IsS38.set_2) | exact HI175.out)); (case side2 => repeat (first | (with_reducible first | exact HB.out | apply below_alloc | apply pw_below_drewN | apply below_drew1 | refine below_set ?_ (IsS38.ge HI175.out)) | exact HB.out)); rintro e w59 ⟨rfl, hi, hb, hk⟩; have n0_ := Aside0.mk (hb); have n1_ := Aside0.mk (hi); clear HB; clear HI175; have HB := n0_; have HI175 := n1_; clear n0_ n1_; (try clear hb); (try clear hb2); (try clear hk); (try clear hi)) | (go_at_call 12; (with_reducible refine (buffer_Buffer_End.calls g175 t185 t186 t187 false t189 t190 t191 w _ ?side1 ?side2 A22.out).mono ?_); (case side1 => repeat (first | (with_reducible first | exact HI175.out | apply IsS38.alloc | apply IsS38.drewN | apply IsS38.drew | apply IsS38.set_0 | apply IsS38.set_1 | apply IsS38.set_2) | exact HI175.out)); (case side2 => repeat (first | (with_reducible first | exact HB.out | apply below_alloc | apply pw_below_drewN | apply below_drew1 | refine below_set ?_ (IsS38.ge HI175.out)) | exact HB.out)); rintro e w60 ⟨rfl, hi, hb, hk⟩; have n0_ := Aside0.mk (hb); have n1_ := Aside0.mk (hi); clear HB; clear HI175; have HB := n0_; have HI175 := n1_; clear n0_ n1_; (try clear hb); (try clear hb2); (try clear hk); (try clear hi)) | (go_at_call 9; (with_reducible refine (buffer_Buffer_Put.calls g175 t189 t190 t191 a1 false t193 t194 t195 w _ ?side1 ?side2 A28.out).mono ?_); (case side1 => repeat (first | (with_reducible first | exact HI175.out | apply IsS38.alloc | apply IsS38.drewN | apply IsS38.drew | apply IsS38.set_0 | apply IsS38.set_1 | apply IsS38.set_2) | exact HI175.out)); (case side2 => repeat (first | (with_reducible first | exact HB.out | apply below_alloc | apply pw_below_drewN | apply below_drew1 | refine below_set ?_ (IsS38.ge HI175.out)) | exact HB.out)); rintro e w61 ⟨rfl, hi, hb, hk⟩; have n0_ := Aside0.mk (hb); have n1_ := Aside0.mk (hi); clear HB; clear HI175; have HB := n0_; have HI175 := n1_; clear n0_ n1_; (try clear hb); (try clear hb2); (try clear hk); (try clear hi)) | (go_at_call 15; (with_reducible refine (buffer_Buffer_Done.calls g175 t193 t194 t195 false t197 t198 t199 w _ ?side1 ?side2 A35.out).mono ?_); (case side1 => repeat (first | (with_reducible first | exact HI175.out | apply IsS38.alloc | apply IsS38.drewN | apply IsS38.drew | apply IsS38.set_0 | apply IsS38.set_1 | apply IsS38.set_2) | exact HI175.out)); (case side2 => repeat (first | (with_reducible first | exact HB.out | apply below_alloc | apply pw_below_drewN | apply below_drew1 | refine below_set ?_ (IsS38.ge HI175.out)) | exact HB.out)); rintro e w62 ⟨rfl, hi, hb, hk⟩; have n0_ := Aside0.mk (hb); have n1_ := Aside0.mk (hi); clear HB; clear HI175; have HB := n0_; have HI175 := n1_; clear n0_ n1_; (try clear hb); (try clear hb2); (try clear hk); (try clear hi)))
                        go_meet
                        case rel => exact ⟨_, (false), (t197), (t198), (t199), (by first | rfl | (simp; done) | (simp [*]; done)), H', ⟨by have := HJ3.out; first | omega | exact Nat.le_refl _⟩, ⟨by repeat (first | (with_reducible first | exact HI175.out | apply IsS38.alloc | apply IsS38.drewN | apply IsS38.drew | apply IsS38.set_0 | apply IsS38.set_1 | apply IsS38.set_2) | exact HI175.out)⟩, ⟨by repeat (first | (with_reducible first | exact HB.out | apply below_alloc | apply pw_below_drewN | apply below_drew1 | refine below_set ?_ (IsS38.ge HI175.out)) | exact HB.out)⟩⟩
              · replace c21 := Bool.eq_false_iff.mpr c21
                subst c21
                have H1 : (bywashlaw13_BufferEnds.j1 kj3 a0 a2 true t185 t186 t187) = some r := by rw [if_neg (show ¬ (false = true) by decide)] at H; exact H
                clear H
                have H := H1
                clear H1
                have H' := Aside0.mk H
                clear H
                go_wp2_with (first | (go_at_call 9; (with_reducible refine (buffer_Buffer_Put.calls g175 t172 t173 t174 a0 true t177 t178 t179 w _ ?side1 ?side2 A14.out).mono ?_); (case side1 => repeat (first | (with_reducible first | exact HI175.out | apply IsS38.alloc | apply IsS38.drewN | apply IsS38.drew | apply IsS38.set_0 | apply IsS38.set_1 | apply IsS38.set_2) | exact HI175.out)); (case side2 => repeat (first | (with_reducible first | exact HB.out | apply below_alloc | apply pw_below_drewN | apply below_drew1 | refine below_set ?_ (IsS38.ge HI175.out)) | exact HB.out)); rintro e w63 ⟨rfl, hi, hb, hk⟩; have n0_ := Aside0.mk (hb); have n1_ := Aside0.mk (hi); clear HB; clear HI175; have HB := n0_; have HI175 := n1_; clear n0_ n1_; (try clear hb); (try clear hb2); (try clear hk); (try clear hi)) | (go_at_call 14; (with_reducible refine (buffer_Buffer_Ended.calls g175 t177 t178 t179 false t181 t182 t183 w _ ?side1 ?side2 A16.out).mono ?_); (case side1 => repeat (first | (with_reducible first | exact HI175.out | apply IsS38.alloc | apply IsS38.drewN | apply IsS38.drew | apply IsS38.set_0 | apply IsS38.set_1 | apply IsS38.set_2) | exact HI175.out)); (case side2 => repeat (first | (with_reducible first | exact HB.out | apply below_alloc | apply pw_below_drewN | apply below_drew1 | refine below_set ?_ (IsS38.ge HI175.out)) | exact HB.out)); rintro e w64 ⟨rfl, hi, hb, hk⟩; have n0_ := Aside0.mk (hb); have n1_ := Aside0.mk (hi); clear HB; clear HI175; have HB := n0_; have HI175 := n1_; clear n0_ n1_; (try clear hb); (try clear hb2); (try clear hk); (try clear hi)) | (go_at_call 12; (with_reducible refine (buffer_Buffer_End.calls g175 t181 t182 t183 false t185 t186 t187 w _ ?side1 ?side2 A20.out).mono ?_); (case side1 => repeat (first | (with_reducible first | exact HI175.out | apply IsS38.alloc | apply IsS38.drewN | apply IsS38.drew | apply IsS38.set_0 | apply IsS38.set_1 | apply IsS38.set_2) | exact HI175.out)); (case side2 => repeat (first | (with_reducible first | exact HB.out | apply below_alloc | apply pw_below_drewN | apply below_drew1 | refine below_set ?_ (IsS38.ge HI175.out)) | exact HB.out)); rintro e w65 ⟨rfl, hi, hb, hk⟩; have n0_ := Aside0.mk (hb); have n1_ := Aside0.mk (hi); clear HB; clear HI175; have HB := n0_; have HI175 := n1_; clear n0_ n1_; (try clear hb); (try clear hb2); (try clear hk); (try clear hi)))
                go_meet
                case rel => exact ⟨_, (true), (t185), (t186), (t187), (by first | rfl | (simp; done) | (simp [*]; done)), H', ⟨by have := HJ3.out; first | omega | exact Nat.le_refl _⟩, ⟨by repeat (first | (with_reducible first | exact HI175.out | apply IsS38.alloc | apply IsS38.drewN | apply IsS38.drew | apply IsS38.set_0 | apply IsS38.set_1 | apply IsS38.set_2) | exact HI175.out)⟩, ⟨by repeat (first | (with_reducible first | exact HB.out | apply below_alloc | apply pw_below_drewN | apply below_drew1 | refine below_set ?_ (IsS38.ge HI175.out)) | exact HB.out)⟩⟩
          · replace c15 := Bool.eq_false_iff.mpr c15
            subst c15
            have H1 : (bywashlaw13_BufferEnds.j1 kj3 a0 a2 true t177 t178 t179) = some r := by rw [if_neg (show ¬ (false = true) by decide)] at H; exact H
            clear H
            have H := H1
            clear H1
            have H' := Aside0.mk H
            clear H
            go_wp2_with (first | (go_at_call 9; (with_reducible refine (buffer_Buffer_Put.calls g175 t172 t173 t174 a0 false t177 t178 t179 w _ ?side1 ?side2 A14.out).mono ?_); (case side1 => repeat (first | (with_reducible first | exact HI175.out | apply IsS38.alloc | apply IsS38.drewN | apply IsS38.drew | apply IsS38.set_0 | apply IsS38.set_1 | apply IsS38.set_2) | exact HI175.out)); (case side2 => repeat (first | (with_reducible first | exact HB.out | apply below_alloc | apply pw_below_drewN | apply below_drew1 | refine below_set ?_ (IsS38.ge HI175.out)) | exact HB.out)); rintro e w66 ⟨rfl, hi, hb, hk⟩; have n0_ := Aside0.mk (hb); have n1_ := Aside0.mk (hi); clear HB; clear HI175; have HB := n0_; have HI175 := n1_; clear n0_ n1_; (try clear hb); (try clear hb2); (try clear hk); (try clear hi)))
            go_meet
            case rel => exact ⟨_, (true), (t177), (t178), (t179), (by first | rfl | (simp; done) | (simp [*]; done)), H', ⟨by have := HJ3.out; first | omega | exact Nat.le_refl _⟩, ⟨by repeat (first | (with_reducible first | exact HI175.out | apply IsS38.alloc | apply IsS38.drewN | apply IsS38.drew | apply IsS38.set_0 | apply IsS38.set_1 | apply IsS38.set_2) | exact HI175.out)⟩, ⟨by repeat (first | (with_reducible first | exact HB.out | apply below_alloc | apply pw_below_drewN | apply below_drew1 | refine below_set ?_ (IsS38.ge HI175.out)) | exact HB.out)⟩⟩
        case rest =>
          clear HC12
          try clear c1
          try clear c2
          try clear p2
          try clear c3
          try clear c5
          try clear c5b0
          try clear c6
          try clear p6
          try clear c7
          try clear c8
          try clear c15
          try clear c17
          try clear c21
          try clear c23
          try clear c29
          try clear c36
          try clear c37
          try clear c37b0
          try clear c37b1
          try clear c50
          try clear c50b0
          try clear c50b1
          try clear p64
          try clear p2
          try clear p6
          obtain ⟨kq, x54_11, x176000_11, x176001_11, x176002_11, rfl, HA, HJ11, HI175, HB⟩ := hcut
          cases kq with
          | zero => exact absurd HA.out (by simp [bywashlaw13_BufferEnds.j1])
          | succ kj11 =>
            have H := HA.out
            clear HA
            simp only [bywashlaw13_BufferEnds.j1] at H
            by_cases c67 : x54_11 = true
            · subst c67
              have H1 : (some false) = some r := by rw [if_pos rfl] at H; exact H
              clear H
              have H := H1
              clear H1
              obtain rfl := Option.some.inj H
              go_wp2
              go_ret
              exact ⟨by first | rfl | (simp [errW_none, errW_some] <;> rfl) | (simp [*, errW_none, errW_some] <;> rfl), by repeat (first | (with_reducible first | exact HB.out | apply below_alloc | apply pw_below_drewN | apply below_drew1 | refine below_set ?_ (IsS38.ge HI175.out)) | exact HB.out)⟩
            · replace c67 := Bool.eq_false_iff.mpr c67
              subst c67
              have H1 : (bywashlaw13_BufferEnds.l0 kj11 a0 a2 (⟨#[]⟩ : ByteArray) 0 x176000_11 x176001_11 x176002_11) = some r := by rw [if_neg (show ¬ (false = true) by decide)] at H; exact H
              clear H
              have H := H1
              clear H1
              have H' := Aside0.mk H
              clear H
              go_wp2
              go_loopg [8, 9] kj11 (fun kq v8 v9 w' => ∃ (x8_3 : ByteArray) (x9_3 : Int) (x176000_3 : ByteArray) (x176001_3 : Int) (x176002_3 : Bool), v8 = .string x8_3 ∧ v9 = .int .i64 x9_3 ∧ Aside0 (bywashlaw13_BufferEnds.l0 kq a0 a2 x8_3 x9_3 x176000_3 x176001_3 x176002_3 = some r) ∧ Aside0 (kq ≤ kj11) ∧ Aside0 (IsS38 w w' g175 x176000_3 x176001_3 x176002_3) ∧ Aside0 (Below w.heap.size w w'))
              case atStart => exact ⟨((⟨#[]⟩ : ByteArray)), (0), (x176000_11), (x176001_11), (x176002_11), (by first | rfl | (simp; done) | (simp [*]; done)), (by first | rfl | (simp; done) | (simp [*]; done)), H', ⟨Nat.le_refl _⟩, ⟨by repeat (first | (with_reducible first | exact HI175.out | apply IsS38.alloc | apply IsS38.drewN | apply IsS38.drew | apply IsS38.set_0 | apply IsS38.set_1 | apply IsS38.set_2) | exact HI175.out)⟩, ⟨by repeat (first | (with_reducible first | exact HB.out | apply below_alloc | apply pw_below_drewN | apply below_drew1 | refine below_set ?_ (IsS38.ge HI175.out)) | exact HB.out)⟩⟩
              case round =>
                clear H'
                try clear c1
                try clear c2
                try clear p2
                try clear c3
                try clear c5
                try clear c5b0
                try clear c6
                try clear p6
                try clear c7
                try clear c8
                try clear c15
                try clear c17
                try clear c21
                try clear c23
                try clear c29
                try clear c36
                try clear c37
                try clear c37b0
                try clear c37b1
                try clear c50
                try clear c50b0
                try clear c50b1
                try clear p64
                try clear c67
                try clear p2
                try clear p6
                try clear p64
                obtain ⟨x8_3, x9_3, x176000_3, x176001_3, x176002_3, rfl, rfl, HA, HK3, HI175, HB⟩ := hrel
                cases gk with
                | zero => exact absurd HA.out (by simp [bywashlaw13_BufferEnds.l0])
                | succ k3 =>
                  have H := HA.out
                  clear HA
                  simp only [bywashlaw13_BufferEnds.l0] at H
                  have HC68 := Aside0.mk H
                  clear H
                  go_upto_region 8 with (fail)
                  go_cut [61] (fun v61 wc => ∃ (kq : Nat) (x61_67 : Bool) (x176000_67 : ByteArray) (x176001_67 : Int) (x176002_67 : Bool), v61 = .bool x61_67 ∧ Aside0 (bywashlaw13_BufferEnds.j3 kq a0 a2 x8_3 x9_3 x61_67 x176000_67 x176001_67 x176002_67 = some r) ∧ Aside0 (kq ≤ k3) ∧ Aside0 (IsS38 w wc g175 x176000_67 x176001_67 x176002_67) ∧ Aside0 (Below w.heap.size w wc))
                  case first =>
                    have H := HC68.out
                    clear HC68
                    by_cases c69 : x9_3 < 400
                    · rw [if_pos c69] at H
                      have c69b0 : decide (x9_3 < 400) = true := decide_eq_true c69
                      clear c69
                      (first | rw [c69b0] | (simp only [i64_w, i32_w]; rw [c69b0]) | skip)
                      replace H := Option.bind_eq_some_iff.mp H
                      obtain ⟨⟨t200, t201, t202, t203⟩, A700, H⟩ := H
                      replace H : (bywashlaw13_BufferEnds.j3 k3 a0 a2 x8_3 x9_3 (!t200) t201 t202 t203) = some r := H
                      have A70 := Aside0.mk A700
                      clear A700
                      have H' := Aside0.mk H
                      clear H
                      go_wp2_with (first | (go_at_call 15; (with_reducible refine (buffer_Buffer_Done.calls g175 x176000_3 x176001_3 x176002_3 t200 t201 t202 t203 w _ ?side1 ?side2 A70.out).mono ?_); (case side1 => repeat (first | (with_reducible first | exact HI175.out | apply IsS38.alloc | apply IsS38.drewN | apply IsS38.drew | apply IsS38.set_0 | apply IsS38.set_1 | apply IsS38.set_2) | exact HI175.out)); (case side2 => repeat (first | (with_reducible first | exact HB.out | apply below_alloc | apply pw_below_drewN | apply below_drew1 | refine below_set ?_ (IsS38.ge HI175.out)) | exact HB.out)); rintro e w71 ⟨rfl, hi, hb, hk⟩; have n0_ := Aside0.mk (hb); have n1_ := Aside0.mk (hi); clear HB; clear HI175; have HB := n0_; have HI175 := n1_; clear n0_ n1_; (try clear hb); (try clear hb2); (try clear hk); (try clear hi)))
                      go_meet
                      case rel => exact ⟨_, (!t200), (t201), (t202), (t203), (by first | rfl | (simp; done) | (simp [*]; done)), H', ⟨by have := HJ3.out; have := HJ11.out; have := HK3.out; first | omega | exact Nat.le_refl _⟩, ⟨by repeat (first | (with_reducible first | exact HI175.out | apply IsS38.alloc | apply IsS38.drewN | apply IsS38.drew | apply IsS38.set_0 | apply IsS38.set_1 | apply IsS38.set_2) | exact HI175.out)⟩, ⟨by repeat (first | (with_reducible first | exact HB.out | apply below_alloc | apply pw_below_drewN | apply below_drew1 | refine below_set ?_ (IsS38.ge HI175.out)) | exact HB.out)⟩⟩
                    · rw [if_neg c69] at H
                      have c69b0 : decide (x9_3 < 400) = false := decide_eq_false c69
                      clear c69
                      (first | rw [c69b0] | (simp only [i64_w, i32_w]; rw [c69b0]) | skip)
                      have H' := Aside0.mk H
                      clear H
                      go_wp2
                      go_meet
                      case rel => exact ⟨_, (false), (x176000_3), (x176001_3), (x176002_3), (by first | rfl | (simp; done) | (simp [*]; done)), H', ⟨by have := HJ3.out; have := HJ11.out; have := HK3.out; first | omega | exact Nat.le_refl _⟩, ⟨by repeat (first | (with_reducible first | exact HI175.out | apply IsS38.alloc | apply IsS38.drewN | apply IsS38.drew | apply IsS38.set_0 | apply IsS38.set_1 | apply IsS38.set_2) | exact HI175.out)⟩, ⟨by repeat (first | (with_reducible first | exact HB.out | apply below_alloc | apply pw_below_drewN | apply below_drew1 | refine below_set ?_ (IsS38.ge HI175.out)) | exact HB.out)⟩⟩
                  case rest =>
                    clear HC68
                    try clear c1
                    try clear c2
                    try clear p2
                    try clear c3
                    try clear c5
                    try clear c5b0
                    try clear c6
                    try clear p6
                    try clear c7
                    try clear c8
                    try clear c15
                    try clear c17
                    try clear c21
                    try clear c23
                    try clear c29
                    try clear c36
                    try clear c37
                    try clear c37b0
                    try clear c37b1
                    try clear c50
                    try clear c50b0
                    try clear c50b1
                    try clear p64
                    try clear c67
                    try clear c69
                    try clear c69b0
                    try clear p2
                    try clear p6
                    try clear p64
                    obtain ⟨kq, x61_67, x176000_67, x176001_67, x176002_67, rfl, HA, HJ67, HI175, HB⟩ := hcut
                    cases kq with
                    | zero => exact absurd HA.out (by simp [bywashlaw13_BufferEnds.j3])
                    | succ kj67 =>
                      have H := HA.out
                      clear HA
                      simp only [bywashlaw13_BufferEnds.j3] at H
                      by_cases c72 : x61_67 = true
                      · subst c72
                        have H1 : ((buffer_Buffer_Get.f x176000_67 x176001_67 x176002_67 (wrap64 (1 + (Int.tmod (wrap64 ((Int.tmod a2 50) + 50)) 50)))).bind fun bt204 => (if x8_3.size + bt204.1.size ≤ 9223372036854775807 then (bywashlaw13_BufferEnds.l0 kj67 a0 a2 (x8_3 ++ bt204.1) (wrap64 (x9_3 + 1)) bt204.2.1 bt204.2.2.1 bt204.2.2.2) else (none))) = some r := by rw [if_pos rfl] at H; exact H
                        clear H
                        have H := H1
                        clear H1
                        replace H := Option.bind_eq_some_iff.mp H
                        obtain ⟨⟨t204, t205, t206, t207⟩, A730, H⟩ := H
                        replace H : (if x8_3.size + t204.size ≤ 9223372036854775807 then (bywashlaw13_BufferEnds.l0 kj67 a0 a2 (x8_3 ++ t204) (wrap64 (x9_3 + 1)) t205 t206 t207) else (none)) = some r := H
                        have A73 := Aside0.mk A730
                        clear A730
                        by_cases c74 : x8_3.size + t204.size ≤ 9223372036854775807
                        · rw [if_pos c74] at H
                          have c74b0 := eq_true c74
                          have c74b1 : decide (x8_3.size + t204.size ≤ 9223372036854775807) = true := decide_eq_true c74
                          try have c74b2 : (9223372036854775807 < x8_3.size + t204.size) = False := eq_false (Nat.not_lt.2 c74)
                          have H' := Aside0.mk H
                          clear H
                          go_wp2_with (first | ((with_reducible refine gate_callee (f := 10) rfl ?_); refine goesL_ (some 71) rfl rfl Try.func10 (by kernel_rfl) rfl #[.pointer (some ⟨g175, 0, none⟩), .int .i64 (wrap64 (1 + (Int.tmod (wrap64 ((Int.tmod a2 50) + 50)) 50)))] rfl (by (try simp only [List.map_toArray, List.map_cons, List.map_nil]); first | done | rfl | (simp only [List.length_drop, List.length_take]; rfl)) ?_; (with_reducible refine (buffer_Buffer_Get.calls g175 x176000_67 x176001_67 x176002_67 (wrap64 (1 + (Int.tmod (wrap64 ((Int.tmod a2 50) + 50)) 50))) t204 t205 t206 t207 w _ ?side1 ?side2 A73.out).mono ?_); (case side1 => repeat (first | (with_reducible first | exact HI175.out | apply IsS38.alloc | apply IsS38.drewN | apply IsS38.drew | apply IsS38.set_0 | apply IsS38.set_1 | apply IsS38.set_2) | exact HI175.out)); (case side2 => repeat (first | (with_reducible first | exact HB.out | apply below_alloc | apply pw_below_drewN | apply below_drew1 | refine below_set ?_ (IsS38.ge HI175.out)) | exact HB.out)); rintro e w75 ⟨rfl, hi, hb, hk⟩; refine ⟨_, rfl, ?_⟩; have n0_ := Aside0.mk (hb); have n1_ := Aside0.mk (hi); clear HB; clear HI175; have HB := n0_; have HI175 := n1_; clear n0_ n1_; (try clear hb); (try clear hb2); (try clear hk); (try clear hi)))
                          go_roundg kj67
                          case measure => have := HJ3.out; have := HJ11.out; have := HK3.out; have := HJ67.out; omega
                          case rel => exact ⟨(x8_3 ++ t204), (wrap64 (x9_3 + 1)), (t205), (t206), (t207), (by first | rfl | (simp; done) | (simp [*]; done)), (by first | rfl | (simp; done) | (simp [*]; done)), H', ⟨by have := HJ3.out; have := HJ11.out; have := HK3.out; have := HJ67.out; omega⟩, ⟨by repeat (first | (with_reducible first | exact HI175.out | apply IsS38.alloc | apply IsS38.drewN | apply IsS38.drew | apply IsS38.set_0 | apply IsS38.set_1 | apply IsS38.set_2) | exact HI175.out)⟩, ⟨by repeat (first | (with_reducible first | exact HB.out | apply below_alloc | apply pw_below_drewN | apply below_drew1 | refine below_set ?_ (IsS38.ge HI175.out)) | exact HB.out)⟩⟩
                        · rw [if_neg c74] at H
                          exact absurd H (by simp)
                      · replace c72 := Bool.eq_false_iff.mpr c72
                        subst c72
                        have H1 : ((buffer_Buffer_Done.f x176000_67 x176001_67 x176002_67).bind fun bt208 => (if bt208.1 = true then (if x8_3.toList = a0.toList then ((buffer_Buffer_Get.f bt208.2.1 bt208.2.2.1 bt208.2.2.2 5).bind fun bt212 => (if bt212.1.toList = ([] : List UInt8) then ((buffer_Buffer_Drop.f bt212.2.1 bt212.2.2.1 bt212.2.2.2).bind fun bt216 => (bywashlaw13_BufferEnds.j4 kj67 (bt216.1 == 0))) else (bywashlaw13_BufferEnds.j4 kj67 false))) else (bywashlaw13_BufferEnds.j4 kj67 false)) else (bywashlaw13_BufferEnds.j4 kj67 false))) = some r := by rw [if_neg (show ¬ (false = true) by decide)] at H; exact H
                        clear H
                        have H := H1
                        clear H1
                        have HC76 := Aside0.mk H
                        clear H
                        go_upto_region 11 with (fail)
                        go_cut [6] (fun v6 wc => ∃ (kq : Nat) (x6_75 : Bool), v6 = .bool x6_75 ∧ Aside0 (bywashlaw13_BufferEnds.j4 kq x6_75 = some r) ∧ Aside0 (kq ≤ kj67) ∧ Aside0 (Below w.heap.size w wc))
                        case first =>
                          have H := HC76.out
                          clear HC76
                          replace H := Option.bind_eq_some_iff.mp H
                          obtain ⟨⟨t208, t209, t210, t211⟩, A770, H⟩ := H
                          replace H : (if t208 = true then (if x8_3.toList = a0.toList then ((buffer_Buffer_Get.f t209 t210 t211 5).bind fun bt212 => (if bt212.1.toList = ([] : List UInt8) then ((buffer_Buffer_Drop.f bt212.2.1 bt212.2.2.1 bt212.2.2.2).bind fun bt216 => (bywashlaw13_BufferEnds.j4 kj67 (bt216.1 == 0))) else (bywashlaw13_BufferEnds.j4 kj67 false))) else (bywashlaw13_BufferEnds.j4 kj67 false)) else (bywashlaw13_BufferEnds.j4 kj67 false)) = some r := H
                          have A77 := Aside0.mk A770
                          clear A770
                          by_cases c78 : t208 = true
                          · subst c78
                            have H1 : (if x8_3.toList = a0.toList then ((buffer_Buffer_Get.f t209 t210 t211 5).bind fun bt212 => (if bt212.1.toList = ([] : List UInt8) then ((buffer_Buffer_Drop.f bt212.2.1 bt212.2.2.1 bt212.2.2.2).bind fun bt216 => (bywashlaw13_BufferEnds.j4 kj67 (bt216.1 == 0))) else (bywashlaw13_BufferEnds.j4 kj67 false))) else (bywashlaw13_BufferEnds.j4 kj67 false)) = some r := by rw [if_pos rfl] at H; exact H
                            clear H
                            have H := H1
                            clear H1
                            by_cases c79 : x8_3.toList = a0.toList
                            · rw [if_pos c79] at H
                              have c79b0 : (x8_3.toList == a0.toList) = true := beq_iff_eq.mpr c79
                              have c79b1 : (x8_3.toList != a0.toList) = false := bne_eq_false_iff_eq.mpr c79
                              clear c79
                              (first | rw [c79b0] | (simp only [i64_w, i32_w]; rw [c79b0]) | skip)
                              replace H := Option.bind_eq_some_iff.mp H
                              obtain ⟨⟨t212, t213, t214, t215⟩, A800, H⟩ := H
                              replace H : (if t212.toList = ([] : List UInt8) then ((buffer_Buffer_Drop.f t213 t214 t215).bind fun bt216 => (bywashlaw13_BufferEnds.j4 kj67 (bt216.1 == 0))) else (bywashlaw13_BufferEnds.j4 kj67 false)) = some r := H
                              have A80 := Aside0.mk A800
                              clear A800
                              by_cases c81 : t212.toList = ([] : List UInt8)
                              · rw [if_pos c81] at H
                                have c81b0 : (t212.toList == ([] : List UInt8)) = true := beq_iff_eq.mpr c81
                                have c81b1 : (t212.toList != ([] : List UInt8)) = false := bne_eq_false_iff_eq.mpr c81
                                clear c81
                                replace H := Option.bind_eq_some_iff.mp H
                                obtain ⟨⟨t216, t217, t218, t219⟩, A820, H⟩ := H
                                replace H : (bywashlaw13_BufferEnds.j4 kj67 (t216 == 0)) = some r := H
                                have A82 := Aside0.mk A820
                                clear A820
                                have H' := Aside0.mk H
                                clear H
                                go_wp2_with (first | ((with_reducible refine gate_callee (f := 15) rfl ?_); refine goesL_ (some 74) rfl rfl Try.func15 (by kernel_rfl) rfl #[.pointer (some ⟨g175, 0, none⟩)] rfl (by (try simp only [List.map_toArray, List.map_cons, List.map_nil]); first | done | rfl | (simp only [List.length_drop, List.length_take]; rfl)) ?_; (with_reducible refine (buffer_Buffer_Done.calls g175 x176000_67 x176001_67 x176002_67 true t209 t210 t211 w _ ?side1 ?side2 A77.out).mono ?_); (case side1 => repeat (first | (with_reducible first | exact HI175.out | apply IsS38.alloc | apply IsS38.drewN | apply IsS38.drew | apply IsS38.set_0 | apply IsS38.set_1 | apply IsS38.set_2) | exact HI175.out)); (case side2 => repeat (first | (with_reducible first | exact HB.out | apply below_alloc | apply pw_below_drewN | apply below_drew1 | refine below_set ?_ (IsS38.ge HI175.out)) | exact HB.out)); rintro e w83 ⟨rfl, hi, hb, hk⟩; refine ⟨_, rfl, ?_⟩; have n0_ := Aside0.mk (hb); have n1_ := Aside0.mk (hi); clear HB; clear HI175; have HB := n0_; have HI175 := n1_; clear n0_ n1_; (try clear hb); (try clear hb2); (try clear hk); (try clear hi)) | (go_at_call 10; (with_reducible refine (buffer_Buffer_Get.calls g175 t209 t210 t211 5 t212 t213 t214 t215 w _ ?side1 ?side2 A80.out).mono ?_); (case side1 => repeat (first | (with_reducible first | exact HI175.out | apply IsS38.alloc | apply IsS38.drewN | apply IsS38.drew | apply IsS38.set_0 | apply IsS38.set_1 | apply IsS38.set_2) | exact HI175.out)); (case side2 => repeat (first | (with_reducible first | exact HB.out | apply below_alloc | apply pw_below_drewN | apply below_drew1 | refine below_set ?_ (IsS38.ge HI175.out)) | exact HB.out)); rintro e w84 ⟨rfl, hi, hb, hk⟩; have n0_ := Aside0.mk (hb); have n1_ := Aside0.mk (hi); clear HB; clear HI175; have HB := n0_; have HI175 := n1_; clear n0_ n1_; (try clear hb); (try clear hb2); (try clear hk); (try clear hi)) | (go_at_call 13; (with_reducible refine (buffer_Buffer_Drop.calls g175 t213 t214 t215 t216 t217 t218 t219 w _ ?side1 ?side2 A82.out).mono ?_); (case side1 => repeat (first | (with_reducible first | exact HI175.out | apply IsS38.alloc | apply IsS38.drewN | apply IsS38.drew | apply IsS38.set_0 | apply IsS38.set_1 | apply IsS38.set_2) | exact HI175.out)); (case side2 => repeat (first | (with_reducible first | exact HB.out | apply below_alloc | apply pw_below_drewN | apply below_drew1 | refine below_set ?_ (IsS38.ge HI175.out)) | exact HB.out)); rintro e w85 ⟨rfl, hi, hb, hk⟩; have n0_ := Aside0.mk (hb); have n1_ := Aside0.mk (hi); clear HB; clear HI175; have HB := n0_; have HI175 := n1_; clear n0_ n1_; (try clear hb); (try clear hb2); (try clear hk); (try clear hi)))
                                go_meet
                                case rel => exact ⟨_, ((t216 == 0)), (by first | rfl | (simp; done) | (simp [*]; done)), H', ⟨by have := HJ3.out; have := HJ11.out; have := HK3.out; have := HJ67.out; first | omega | exact Nat.le_refl _⟩, ⟨by repeat (first | (with_reducible first | exact HB.out | apply below_alloc | apply pw_below_drewN | apply below_drew1 | refine below_set ?_ (IsS38.ge HI175.out)) | exact HB.out)⟩⟩
                              · rw [if_neg c81] at H
                                have c81b0 : (t212.toList == ([] : List UInt8)) = false := beq_eq_false_iff_ne.mpr c81
                                have c81b1 : (t212.toList != ([] : List UInt8)) = true := bne_iff_ne.mpr c81
                                have H' := Aside0.mk H
                                clear H
                                go_wp2_with (first | ((with_reducible refine gate_callee (f := 15) rfl ?_); refine goesL_ (some 74) rfl rfl Try.func15 (by kernel_rfl) rfl #[.pointer (some ⟨g175, 0, none⟩)] rfl (by (try simp only [List.map_toArray, List.map_cons, List.map_nil]); first | done | rfl | (simp only [List.length_drop, List.length_take]; rfl)) ?_; (with_reducible refine (buffer_Buffer_Done.calls g175 x176000_67 x176001_67 x176002_67 true t209 t210 t211 w _ ?side1 ?side2 A77.out).mono ?_); (case side1 => repeat (first | (with_reducible first | exact HI175.out | apply IsS38.alloc | apply IsS38.drewN | apply IsS38.drew | apply IsS38.set_0 | apply IsS38.set_1 | apply IsS38.set_2) | exact HI175.out)); (case side2 => repeat (first | (with_reducible first | exact HB.out | apply below_alloc | apply pw_below_drewN | apply below_drew1 | refine below_set ?_ (IsS38.ge HI175.out)) | exact HB.out)); rintro e w86 ⟨rfl, hi, hb, hk⟩; refine ⟨_, rfl, ?_⟩; have n0_ := Aside0.mk (hb); have n1_ := Aside0.mk (hi); clear HB; clear HI175; have HB := n0_; have HI175 := n1_; clear n0_ n1_; (try clear hb); (try clear hb2); (try clear hk); (try clear hi)) | (go_at_call 10; (with_reducible refine (buffer_Buffer_Get.calls g175 t209 t210 t211 5 t212 t213 t214 t215 w _ ?side1 ?side2 A80.out).mono ?_); (case side1 => repeat (first | (with_reducible first | exact HI175.out | apply IsS38.alloc | apply IsS38.drewN | apply IsS38.drew | apply IsS38.set_0 | apply IsS38.set_1 | apply IsS38.set_2) | exact HI175.out)); (case side2 => repeat (first | (with_reducible first | exact HB.out | apply below_alloc | apply pw_below_drewN | apply below_drew1 | refine below_set ?_ (IsS38.ge HI175.out)) | exact HB.out)); rintro e w87 ⟨rfl, hi, hb, hk⟩; have n0_ := Aside0.mk (hb); have n1_ := Aside0.mk (hi); clear HB; clear HI175; have HB := n0_; have HI175 := n1_; clear n0_ n1_; (try clear hb); (try clear hb2); (try clear hk); (try clear hi)))
                                go_meet
                                case rel => exact ⟨_, (false), (by first | rfl | (simp; done) | (simp [*]; done)), H', ⟨by have := HJ3.out; have := HJ11.out; have := HK3.out; have := HJ67.out; first | omega | exact Nat.le_refl _⟩, ⟨by repeat (first | (with_reducible first | exact HB.out | apply below_alloc | apply pw_below_drewN | apply below_drew1 | refine below_set ?_ (IsS38.ge HI175.out)) | exact HB.out)⟩⟩
                            · rw [if_neg c79] at H
                              have c79b0 : (x8_3.toList == a0.toList) = false := beq_eq_false_iff_ne.mpr c79
                              have c79b1 : (x8_3.toList != a0.toList) = true := bne_iff_ne.mpr c79
                              (first | rw [c79b0] | (simp only [i64_w, i32_w]; rw [c79b0]) | skip)
                              have H' := Aside0.mk H
                              clear H
                              go_wp2_with (first | ((with_reducible refine gate_callee (f := 15) rfl ?_); refine goesL_ (some 74) rfl rfl Try.func15 (by kernel_rfl) rfl #[.pointer (some ⟨g175, 0, none⟩)] rfl (by (try simp only [List.map_toArray, List.map_cons, List.map_nil]); first | done | rfl | (simp only [List.length_drop, List.length_take]; rfl)) ?_; (with_reducible refine (buffer_Buffer_Done.calls g175 x176000_67 x176001_67 x176002_67 true t209 t210 t211 w _ ?side1 ?side2 A77.out).mono ?_); (case side1 => repeat (first | (with_reducible first | exact HI175.out | apply IsS38.alloc | apply IsS38.drewN | apply IsS38.drew | apply IsS38.set_0 | apply IsS38.set_1 | apply IsS38.set_2) | exact HI175.out)); (case side2 => repeat (first | (with_reducible first | exact HB.out | apply below_alloc | apply pw_below_drewN | apply below_drew1 | refine below_set ?_ (IsS38.ge HI175.out)) | exact HB.out)); rintro e w88 ⟨rfl, hi, hb, hk⟩; refine ⟨_, rfl, ?_⟩; have n0_ := Aside0.mk (hb); have n1_ := Aside0.mk (hi); clear HB; clear HI175; have HB := n0_; have HI175 := n1_; clear n0_ n1_; (try clear hb); (try clear hb2); (try clear hk); (try clear hi)))
                              go_meet
                              case rel => exact ⟨_, (false), (by first | rfl | (simp; done) | (simp [*]; done)), H', ⟨by have := HJ3.out; have := HJ11.out; have := HK3.out; have := HJ67.out; first | omega | exact Nat.le_refl _⟩, ⟨by repeat (first | (with_reducible first | exact HB.out | apply below_alloc | apply pw_below_drewN | apply below_drew1 | refine below_set ?_ (IsS38.ge HI175.out)) | exact HB.out)⟩⟩
                          · replace c78 := Bool.eq_false_iff.mpr c78
                            subst c78
                            have H1 : (bywashlaw13_BufferEnds.j4 kj67 false) = some r := by rw [if_neg (show ¬ (false = true) by decide)] at H; exact H
                            clear H
                            have H := H1
                            clear H1
                            have H' := Aside0.mk H
                            clear H
                            go_wp2_with (first | ((with_reducible refine gate_callee (f := 15) rfl ?_); refine goesL_ (some 74) rfl rfl Try.func15 (by kernel_rfl) rfl #[.pointer (some ⟨g175, 0, none⟩)] rfl (by (try simp only [List.map_toArray, List.map_cons, List.map_nil]); first | done | rfl | (simp only [List.length_drop, List.length_take]; rfl)) ?_; (with_reducible refine (buffer_Buffer_Done.calls g175 x176000_67 x176001_67 x176002_67 false t209 t210 t211 w _ ?side1 ?side2 A77.out).mono ?_); (case side1 => repeat (first | (with_reducible first | exact HI175.out | apply IsS38.alloc | apply IsS38.drewN | apply IsS38.drew | apply IsS38.set_0 | apply IsS38.set_1 | apply IsS38.set_2) | exact HI175.out)); (case side2 => repeat (first | (with_reducible first | exact HB.out | apply below_alloc | apply pw_below_drewN | apply below_drew1 | refine below_set ?_ (IsS38.ge HI175.out)) | exact HB.out)); rintro e w89 ⟨rfl, hi, hb, hk⟩; refine ⟨_, rfl, ?_⟩; have n0_ := Aside0.mk (hb); have n1_ := Aside0.mk (hi); clear HB; clear HI175; have HB := n0_; have HI175 := n1_; clear n0_ n1_; (try clear hb); (try clear hb2); (try clear hk); (try clear hi)))
                            go_meet
                            case rel => exact ⟨_, (false), (by first | rfl | (simp; done) | (simp [*]; done)), H', ⟨by have := HJ3.out; have := HJ11.out; have := HK3.out; have := HJ67.out; first | omega | exact Nat.le_refl _⟩, ⟨by repeat (first | (with_reducible first | exact HB.out | apply below_alloc | apply pw_below_drewN | apply below_drew1 | refine below_set ?_ (IsS38.ge HI175.out)) | exact HB.out)⟩⟩
                        case rest =>
                          clear HC76
                          try clear c1
                          try clear c2
                          try clear p2
                          try clear c3
                          try clear c5
                          try clear c5b0
                          try clear c6
                          try clear p6
                          try clear c7
                          try clear c8
                          try clear c10
                          try clear c15
                          try clear c17
                          try clear c21
                          try clear c23
                          try clear c29
                          try clear c36
                          try clear c37
                          try clear c37b0
                          try clear c37b1
                          try clear c50
                          try clear c50b0
                          try clear c50b1
                          try clear p64
                          try clear c67
                          try clear c69
                          try clear c69b0
                          try clear c72
                          try clear c74
                          try clear c74b0
                          try clear c74b1
                          try clear c74b2
                          try clear c78
                          try clear c79
                          try clear c79b0
                          try clear c79b1
                          try clear c81
                          try clear c81b0
                          try clear c81b1
                          try clear p2
                          try clear p6
                          try clear p64
                          obtain ⟨kq, x6_75, rfl, HA, HJ75, HB⟩ := hcut
                          cases kq with
                          | zero => exact absurd HA.out (by simp [bywashlaw13_BufferEnds.j4])
                          | succ kj75 =>
                            have H := HA.out
                            clear HA
                            simp only [bywashlaw13_BufferEnds.j4] at H
                            obtain rfl := Option.some.inj H
                            go_wp2
                            go_ret
                            exact ⟨by first | rfl | (simp [errW_none, errW_some] <;> rfl) | (simp [*, errW_none, errW_some] <;> rfl), by repeat (first | (with_reducible first | exact HB.out | apply below_alloc | apply pw_below_drewN | apply below_drew1) | exact HB.out)⟩

/-- THE ONE PURE STATEMENT of bywashlaw13_BufferEnds: yours. -/
def bywashlaw13_BufferEnds.Pure : Prop := ∀ (a0 : ByteArray) (a1 : ByteArray) (a2 : Int), a0.size ≤ 140737488351232 → a1.size ≤ 140737488351232 → (Lit.int .i64 a2).wf = true → ∃ k, bywashlaw13_BufferEnds.f k a0 a1 a2 = some true
theorem bywashlaw13_BufferEnds.walk (P : bywashlaw13_BufferEnds.Pure) (a0 : ByteArray) (a1 : ByteArray) (a2 : Int) (w : World) (w0 : a0.size ≤ 140737488351232) (w1 : a1.size ≤ 140737488351232) (w2 : (Lit.int .i64 a2).wf = true) :
    Calls Try.prog 6 #[.string a0, .string a1, .int .i64 a2] w fun e w' => e = .returned (.bool true) ∧ Below w.heap.size w w' := by
  obtain ⟨k, h⟩ := P a0 a1 a2 w0 w1 w2
  refine (bywashlaw13_BufferEnds.calls k a0 a1 a2 true w h).mono ?_
  rintro e w' ⟨rfl, hd⟩
  exact ⟨rfl, hd⟩

end Go.Proofs.Ytofjbbbajnohaaa.PBufferEnds
