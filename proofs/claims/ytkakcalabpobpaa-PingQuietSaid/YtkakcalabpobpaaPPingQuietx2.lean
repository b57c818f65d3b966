-- Written by a program of this session (the kit's printer, turned): the functions that the law reaches.
import Derived.Test.YtkakcalabpobpaaPPingQuietx0
import Derived.Test.YtkakcalabpobpaaPPingQuietx1
namespace Go.Proofs.Ytkakcalabpobpaa.PPingQuiet
open Go.RowKit Go.Proofs.YtkakcalabpobpaaW.PrintWords Go.Proofs.YtkakcalabpobpaaW.PrintLast Go.Proofs.YtkakcalabpobpaaW.PrintMore
attribute [local go_sem] max2_int min2_int max_two min_two max_three min_three max_four min_four   -- for this text's walks alone
set_option linter.unusedVariables false
set_option linter.unusedSimpArgs false

/-! ### bywashref1_Big: function 16 -/
def bywashref1_Big.l0 : Nat → Int → List Int → Int → Option (ByteArray)
  | 0, _, _, _ => none
  | k + 1, x0, x5, x6 => if x6 ≥ 0 then (if 0 ≤ x6 then (if x6 < (x5.length : Int) then (bywashref1_Big.l0 k (x0 / 256) (x5.set (x6 : Int).toNat ((Go.bits .and .i64 x0 255) % 256)) (wrap64 (x6 - 1))) else (none)) else (none)) else (some (strOfNums x5))
def bywashref1_Big.f (k : Nat) (a0 : Int) (a1 : Int) : Option (ByteArray) := if 0 ≤ a1 then (if (a1 : Int).toNat ≤ 281474976710656 then (bywashref1_Big.l0 k a0 (List.replicate (a1 : Int).toNat 0) (wrap64 (a1 - 1))) else (none)) else (none)
theorem bywashref1_Big.mono_l : ∀ k, (∀ y0 y1 y2, LeO (bywashref1_Big.l0 k y0 y1 y2) (bywashref1_Big.l0 (k + 1) y0 y1 y2))
  | 0 => fun _ _ _ r h => by simp [bywashref1_Big.l0] at h
  | k + 1 => by
    have ih0 := bywashref1_Big.mono_l k
    · intro y0 y1 y2
      unfold bywashref1_Big.l0
      repeat' first
      | (with_reducible exact ih0 _ _ _)
      | (with_reducible exact LeO.refl _)
      | (with_reducible exact LeO.none _)
      | (with_reducible refine LeO.ite ?_ ?_)
      | (with_reducible refine LeO.bind ?_ (fun _ => ?_))
      | exact ih0 _ _ _
      | exact LeO.none _
      | refine LeO.ite ?_ ?_
      | refine LeO.bind ?_ (fun _ => ?_)
theorem bywashref1_Big.mono : ∀ a0 a1 k, LeO (bywashref1_Big.f k a0 a1) (bywashref1_Big.f (k + 1) a0 a1) := by
  intro a0 a1 k
  have ih0 := bywashref1_Big.mono_l k
  unfold bywashref1_Big.f
  repeat' first
      | (with_reducible exact ih0 _ _ _)
      | (with_reducible exact LeO.refl _)
      | (with_reducible exact LeO.none _)
      | (with_reducible refine LeO.ite ?_ ?_)
      | (with_reducible refine LeO.bind ?_ (fun _ => ?_))
      | exact ih0 _ _ _
      | exact LeO.none _
      | refine LeO.ite ?_ ?_
      | refine LeO.bind ?_ (fun _ => ?_)
set_option maxHeartbeats 8000000 in
set_option maxRecDepth 100000 in
theorem bywashref1_Big.calls (k : Nat) (a0 : Int) (a1 : Int) (r : ByteArray) (w : World) (h : bywashref1_Big.f k a0 a1 = some r) :
    Calls Try.prog 16 #[.int .i64 a0, .int .i64 a1] w fun e w' => e = .returned (.string r) ∧ Below w.heap.size w w' := by
  have HB := Aside0.mk (Below.refl w.heap.size w)
  have H : (if 0 ≤ a1 then (if (a1 : Int).toNat ≤ 281474976710656 then (bywashref1_Big.l0 k a0 (List.replicate (a1 : Int).toNat 0) (wrap64 (a1 - 1))) else (none)) else (none)) = some r := h
  clear h
  by_cases c3 : 0 ≤ a1
  · rw [if_pos c3] at H
    have c3b0 := eq_true c3
    have c3b1 : decide (0 ≤ a1) = true := decide_eq_true c3
    clear c3
    by_cases c4 : (a1 : Int).toNat ≤ 281474976710656
    · rw [if_pos c4] at H
      have c4b0 := eq_true c4
      have c4b1 : decide ((a1 : Int).toNat ≤ 281474976710656) = true := decide_eq_true c4
      clear c4
      obtain ⟨y169, hy169⟩ : ∃ y_ : List Int, y_ = (List.replicate (a1 : Int).toNat 0) := ⟨_, rfl⟩
      replace H : (bywashref1_Big.l0 k a0 y169 (wrap64 (a1 - 1))) = some r := by first | (rw [hy169]; with_reducible exact H) | (have H2_ := (Option.bind_some _ _).symm.trans H; rw [hy169]; with_reducible exact H2_) | (have H2_ := (Option.bind_some _ _).symm.trans H; with_reducible exact H2_) | with_reducible exact H | (rw [hy169]; exact H) | exact H
      have Ny169 := Aside0.mk hy169
      clear hy169
      have H' := Aside0.mk H
      clear H
      go_enter Try.func16, Try.ntmps16
      go_wp2_with (first | ((with_reducible refine gate_dst (N := 8) rfl ?_); refine Kd.R_make (Kd.int .u8) _ 5 rfl (N := 8) rfl 44 _ _ rfl a1 rfl rfl Try.underlying44 (.int .u8 0) 1 info5 rfl (by decide) (by omega) 0 (ok := fun _ => True) (okp := fun _ => True) rfl (fun _ hk => hk) trivial (of_decide_eq_true (by first | (with_reducible assumption) | assumption)) (Nat.le_trans (Nat.mul_le_mul_right _ (of_decide_eq_true (by first | (with_reducible assumption) | assumption) : a1.toNat ≤ 281474976710656)) (by omega)) (Below.refl _ _) (Nat.le_refl _) ?_; intro v170 w5 ho6 hb hg_ hnew_; clear hg_ hnew_; (first | rw [← Ny169.out] at ho6 | (simp only [Int.reduceToNat] at ho6; rw [← Ny169.out] at ho6)); have n0_ := Aside0.mk (Kd.R_lower ho6 (below_size (by repeat (first | (with_reducible first | exact HB.out | apply below_alloc | apply pw_below_drewN | apply below_drew1) | exact HB.out)))); have n1_ := Aside0.mk (below_step (by repeat (first | (with_reducible first | exact HB.out | apply below_alloc | apply pw_below_drewN | apply below_drew1) | exact HB.out)) hb); clear HB; have HO171 := n0_; have HB := n1_; clear n0_ n1_; clear hb ho6))
      go_loopg [0, 6] k (fun kq v0 v6 w' => ∃ (x0_1 : Int) (x5_1 : List Int) (x6_1 : Int), v0 = .int .i64 x0_1 ∧ v6 = .int .i64 x6_1 ∧ Aside0 (bywashref1_Big.l0 kq x0_1 x5_1 x6_1 = some r) ∧ Aside0 (kq ≤ k) ∧ Aside0 (Kd.R (Kd.int .u8) 5 w' w.heap.size (fun _ => True) v170 x5_1) ∧ Aside0 (Below w.heap.size w w'))
      case atStart => exact ⟨(a0), (y169), (wrap64 (a1 - 1)), (by first | rfl | (simp; done) | (simp [*]; done)), (by first | rfl | (simp; done) | (simp [*]; done)), H', ⟨Nat.le_refl _⟩, ⟨by (with_reducible repeat (first | apply Kd.R_alloc | apply Kd.R_drewN | apply Kd.R_drew)); exact HO171.out⟩, ⟨by repeat (first | (with_reducible first | exact HB.out | apply below_alloc | apply pw_below_drewN | apply below_drew1) | exact HB.out)⟩⟩
      case round =>
        clear H'
        try clear c1
        try clear p2
        try clear c3
        try clear c3b0
        try clear c3b1
        try clear c4
        try clear c4b0
        try clear c4b1
        try clear p6
        obtain ⟨x0_1, x5_1, x6_1, rfl, rfl, HA, HK1, HO_5, HB⟩ := hrel
        cases gk with
        | zero => exact absurd HA.out (by simp [bywashref1_Big.l0])
        | succ k1 =>
          have H := HA.out
          clear HA
          simp only [bywashref1_Big.l0] at H
          by_cases c7 : x6_1 ≥ 0
          · rw [if_pos c7] at H
            have c7b0 : decide (0 ≤ x6_1) = true := decide_eq_true c7
            clear c7
            by_cases c8 : 0 ≤ x6_1
            · rw [if_pos c8] at H
              have c8b0 : decide (0 ≤ x6_1) = true := decide_eq_true c8
              clear c8
              by_cases c9 : x6_1 < (x5_1.length : Int)
              · rw [if_pos c9] at H
                have c9b0 : decide (x6_1 < (x5_1.length : Int)) = true := decide_eq_true c9
                clear c9
                obtain ⟨y172, hy172⟩ : ∃ y_ : List Int, y_ = (x5_1.set (x6_1 : Int).toNat ((Go.bits .and .i64 x0_1 255) % 256)) := ⟨_, rfl⟩
                replace H : (bywashref1_Big.l0 k1 (x0_1 / 256) y172 (wrap64 (x6_1 - 1))) = some r := by first | (rw [hy172]; with_reducible exact H) | (have H2_ := (Option.bind_some _ _).symm.trans H; rw [hy172]; with_reducible exact H2_) | (have H2_ := (Option.bind_some _ _).symm.trans H; with_reducible exact H2_) | with_reducible exact H | (rw [hy172]; exact H) | exact H
                have Ny172 := Aside0.mk hy172
                clear hy172
                have H' := Aside0.mk H
                clear H
                have p10 : 0 ≤ (x6_1 : Int) := of_decide_eq_true (by first | (with_reducible assumption) | assumption)
                have q10 : (x6_1 : Int) < ((x5_1.length : Int) : Int) := of_decide_eq_true (by first | (with_reducible assumption) | assumption)
                obtain ⟨go10, co10, eo10, gb10, gl10, cl10, HG10⟩ := Kd.R_form HO_5.out (by omega)
                (first | cases eo10 | (injection eo10 with ea_ en_ ec_; (first | subst ea_ | (injection ea_ with ea_; subst ea_)); subst ec_; clear en_))
                have GB10 := Aside0.mk gb10
                have GG10 := Aside0.mk HG10
                clear gb10 gl10 HG10
                obtain ⟨hx10_0, hf10_0⟩ := Kd.R_celln 0 HO_5.out (x6_1 : Int) p10 q10
                replace p10 := eq_true p10
                replace q10 := eq_true q10
                have HP11 := Kd.R_putg HO_5.out (x6_1 : Int) ((Go.bits .and .i64 x0_1 255) % 256)
                go_wp2_with (first | ((with_reducible refine gate_store (t := 5) (p := 20) rfl ?_); refine store_event (t := 5) (p := 20) (v := ?vo_w12) (w1 := (wr.setCell ⟨go10, (x6_1 : Int).toNat, none⟩ (.int .u8 ((Go.bits .and .i64 x0_1 255) % 256)))) ?hg ?ho ?hn ?hr ?_; (case ho => rfl); (case hg => rfl); (case hn => rfl); (case hr => first | (go_simp; done) | (go_simp; rfl)); intro w12 hw; have hg : wr.grownBy w12 (some go10) := (by rw [hw]; exact HP11.2); have hp_ : Kd.R (Kd.int .u8) 5 w12 w.heap.size (fun _ => True) (.slice (some ⟨go10, 0, none⟩) x5_1.length co10) y172 := (by rw [hw, Ny172.out]; exact HP11.1); clear HP11; have n0_ := Aside0.mk (hp_); have n1_ := Aside0.mk ((by rw [hw]; exact below_set (HB.out) GB10.out : Below w.heap.size w w12)); clear HO_5; clear HB; have HO_5 := n0_; have HB := n1_; clear n0_ n1_; clear hg hw hp_))
                go_roundg k1
                case measure => have := HK1.out; omega
                case rel => exact ⟨(x0_1 / 256), (y172), (wrap64 (x6_1 - 1)), (by first | rfl | (simp; done) | (simp [*]; done)), (by first | rfl | (simp; done) | (simp [*]; done)), H', ⟨by have := HK1.out; omega⟩, ⟨by (with_reducible repeat (first | apply Kd.R_alloc | apply Kd.R_drewN | apply Kd.R_drew)); exact HO_5.out⟩, ⟨by repeat (first | (with_reducible first | exact HB.out | apply below_alloc | apply pw_below_drewN | apply below_drew1) | exact HB.out)⟩⟩
              · rw [if_neg c9] at H
                exact absurd H (by simp)
            · rw [if_neg c8] at H
              exact absurd H (by simp)
          · rw [if_neg c7] at H
            have c7b0 : decide (0 ≤ x6_1) = false := decide_eq_false c7
            clear c7
            obtain rfl := Option.some.inj H
            have hcv13 := own_string (P := Try.prog) Try.underlying44 Try.underlying5 Try.underlying9 (Kd.own_of_R HO_5.out)
            go_wp2
            go_ret
            exact ⟨by first | rfl | (simp [errW_none, errW_some] <;> rfl) | (simp [*, errW_none, errW_some] <;> rfl), by repeat (first | (with_reducible first | exact HB.out | apply below_alloc | apply pw_below_drewN | apply below_drew1) | exact HB.out)⟩
    · rw [if_neg c4] at H
      exact absurd H (by simp)
  · rw [if_neg c3] at H
    exact absurd H (by simp)

/-! ### bywashlaw17_PingQuiet: function 6 -/
mutual
def bywashlaw17_PingQuiet.j0 : Nat → Int → Int → List ByteArray → Bool → Option (Bool)
  | 0, _, _, _, _ => none
  | k + 1, x0, x1, x2, x35 => if x35 = true then ((bywashlaw17_alive.f k).bind fun t174 => (some t174)) else ((ping_New.f x0 x1).bind fun bt175 => (bywashlaw17_PingQuiet.l0 k x0 x2 0 bt175.1 bt175.2.1 bt175.2.2.1 bt175.2.2.2.1 bt175.2.2.2.2.1 bt175.2.2.2.2.2))
def bywashlaw17_PingQuiet.l0 : Nat → Int → List ByteArray → Int → Int → Int → Int → Int → Bool → Bool → Option (Bool)
  | 0, _, _, _, _, _, _, _, _, _ => none
  | k + 1, x0, x2, x8, x182000, x182001, x182002, x182003, x182004, x182005 => if x8 < x0 then (bywashlaw17_PingQuiet.l1 k x0 x2 x8 x2 (x2.length : Int) 0 x182000 x182001 x182002 x182003 x182004 x182005) else (bywashlaw17_PingQuiet.l2 k x2 (x2.length : Int) 0 x182000 x182001 x182002 x182003 x182004 x182005)
def bywashlaw17_PingQuiet.l1 : Nat → Int → List ByteArray → Int → List ByteArray → Int → Int → Int → Int → Int → Int → Bool → Bool → Option (Bool)
  | 0, _, _, _, _, _, _, _, _, _, _, _, _ => none
  | k + 1, x0, x2, x8, x47, x48, x49, x182000, x182001, x182002, x182003, x182004, x182005 => if x49 < x48 then (if 0 ≤ x49 then (if x49 < (x47.length : Int) then ((ping_Health_Got.f k x182000 x182001 x182002 x182003 x182004 x182005 (rdOf ByteArray.empty x47 x49)).bind fun bt191 => (if bt191.1 = true then (some false) else ((ping_Health_Waits.f bt191.2.1 bt191.2.2.1 bt191.2.2.2.1 bt191.2.2.2.2.1 bt191.2.2.2.2.2.1 bt191.2.2.2.2.2.2).bind fun bt198 => (if bt198.1 = true then (some false) else (bywashlaw17_PingQuiet.l1 k x0 x2 x8 x47 x48 (wrap64 (x49 + 1)) bt198.2.1 bt198.2.2.1 bt198.2.2.2.1 bt198.2.2.2.2.1 bt198.2.2.2.2.2.1 bt198.2.2.2.2.2.2))))) else (none)) else (none)) else ((ping_Health_Tick.f k x182000 x182001 x182002 x182003 x182004 x182005).bind fun bt182 => (bywashlaw17_PingQuiet.l0 k x0 x2 (wrap64 (x8 + 1)) bt182.2.2.1 bt182.2.2.2.1 bt182.2.2.2.2.1 bt182.2.2.2.2.2.1 bt182.2.2.2.2.2.2.1 bt182.2.2.2.2.2.2.2))
def bywashlaw17_PingQuiet.l2 : Nat → List ByteArray → Int → Int → Int → Int → Int → Int → Bool → Bool → Option (Bool)
  | 0, _, _, _, _, _, _, _, _, _ => none
  | k + 1, x63, x64, x65, x182000, x182001, x182002, x182003, x182004, x182005 => if x65 < x64 then (if 0 ≤ x65 then (if x65 < (x63.length : Int) then ((bywashref1_Big.f k 1 8).bind fun t220 => (if (rdOf ByteArray.empty x63 x65).toList = t220.toList then (bywashlaw17_PingQuiet.l2 k x63 x64 (wrap64 (x65 + 1)) x182000 x182001 x182002 x182003 x182004 x182005) else ((ping_Health_Got.f k x182000 x182001 x182002 x182003 x182004 x182005 (rdOf ByteArray.empty x63 x65)).bind fun bt221 => (if bt221.1 = true then (some false) else ((ping_Health_Waits.f bt221.2.1 bt221.2.2.1 bt221.2.2.2.1 bt221.2.2.2.2.1 bt221.2.2.2.2.2.1 bt221.2.2.2.2.2.2).bind fun bt228 => (if bt228.1 = true then (bywashlaw17_PingQuiet.l2 k x63 x64 (wrap64 (x65 + 1)) bt228.2.1 bt228.2.2.1 bt228.2.2.2.1 bt228.2.2.2.2.1 bt228.2.2.2.2.2.1 bt228.2.2.2.2.2.2) else (some false))))))) else (none)) else (none)) else ((ping_Health_Sent.f x182000 x182001 x182002 x182003 x182004 x182005).bind fun bt205 => (if bt205.1 = 1 then ((ping_Health_Waits.f bt205.2.1 bt205.2.2.1 bt205.2.2.2.1 bt205.2.2.2.2.1 bt205.2.2.2.2.2.1 bt205.2.2.2.2.2.2).bind fun bt212 => (some bt212.1)) else (some false)))
end
def bywashlaw17_PingQuiet.f (k : Nat) (a0 : Int) (a1 : Int) (l2 : List ByteArray) : Option (Bool) := if a0 < 1 then (bywashlaw17_PingQuiet.j0 k a0 a1 l2 true) else (if a1 < 1 then (bywashlaw17_PingQuiet.j0 k a0 a1 l2 true) else (if a0 > 50 then (bywashlaw17_PingQuiet.j0 k a0 a1 l2 true) else (if a1 > 50 then (bywashlaw17_PingQuiet.j0 k a0 a1 l2 true) else (if (l2.length : Int) > 30 then (bywashlaw17_PingQuiet.j0 k a0 a1 l2 true) else ((bywashlaw17_alive.f k).bind fun t173 => (bywashlaw17_PingQuiet.j0 k a0 a1 l2 (!t173)))))))
theorem bywashlaw17_PingQuiet.mono_l : ∀ k, (∀ y0 y1 y2 y3, LeO (bywashlaw17_PingQuiet.j0 k y0 y1 y2 y3) (bywashlaw17_PingQuiet.j0 (k + 1) y0 y1 y2 y3)) ∧ (∀ y0 y1 y2 y3 y4 y5 y6 y7 y8, LeO (bywashlaw17_PingQuiet.l0 k y0 y1 y2 y3 y4 y5 y6 y7 y8) (bywashlaw17_PingQuiet.l0 (k + 1) y0 y1 y2 y3 y4 y5 y6 y7 y8)) ∧ (∀ y0 y1 y2 y3 y4 y5 y6 y7 y8 y9 y10 y11, LeO (bywashlaw17_PingQuiet.l1 k y0 y1 y2 y3 y4 y5 y6 y7 y8 y9 y10 y11) (bywashlaw17_PingQuiet.l1 (k + 1) y0 y1 y2 y3 y4 y5 y6 y7 y8 y9 y10 y11)) ∧ (∀ y0 y1 y2 y3 y4 y5 y6 y7 y8, LeO (bywashlaw17_PingQuiet.l2 k y0 y1 y2 y3 y4 y5 y6 y7 y8) (bywashlaw17_PingQuiet.l2 (k + 1) y0 y1 y2 y3 y4 y5 y6 y7 y8))
  | 0 => ⟨fun _ _ _ _ r h => by simp [bywashlaw17_PingQuiet.j0] at h, fun _ _ _ _ _ _ _ _ _ r h => by simp [bywashlaw17_PingQuiet.l0] at h, fun _ _ _ _ _ _ _ _ _ _ _ _ r h => by simp [bywashlaw17_PingQuiet.l1] at h, fun _ _ _ _ _ _ _ _ _ r h => by simp [bywashlaw17_PingQuiet.l2] at h⟩
  | k + 1 => by
    obtain ⟨ih0, ih1, ih2, ih3⟩ := bywashlaw17_PingQuiet.mono_l k
    refine ⟨?_, ?_, ?_, ?_⟩
    · intro y0 y1 y2 y3
      unfold bywashlaw17_PingQuiet.j0
      repeat' first
      | (with_reducible exact ih0 _ _ _ _)
      | (with_reducible exact ih1 _ _ _ _ _ _ _ _ _)
      | (with_reducible exact ih2 _ _ _ _ _ _ _ _ _ _ _ _)
      | (with_reducible exact ih3 _ _ _ _ _ _ _ _ _)
      | (with_reducible exact bywashlaw17_alive.mono _)
      | (with_reducible exact bywashref1_Big.mono _ _ _)
      | (with_reducible exact ping_Health_Got.mono _ _ _ _ _ _ _ _)
      | (with_reducible exact ping_Health_Tick.mono _ _ _ _ _ _ _)
      | (with_reducible exact LeO.refl _)
      | (with_reducible exact LeO.none _)
      | (with_reducible refine LeO.ite ?_ ?_)
      | (with_reducible refine LeO.bind ?_ (fun _ => ?_))
      | exact ih0 _ _ _ _
      | exact ih1 _ _ _ _ _ _ _ _ _
      | exact ih2 _ _ _ _ _ _ _ _ _ _ _ _
      | exact ih3 _ _ _ _ _ _ _ _ _
      | exact bywashlaw17_alive.mono _
      | exact bywashref1_Big.mono _ _ _
      | exact ping_Health_Got.mono _ _ _ _ _ _ _ _
      | exact ping_Health_Tick.mono _ _ _ _ _ _ _
      | exact LeO.none _
      | refine LeO.ite ?_ ?_
      | refine LeO.bind ?_ (fun _ => ?_)
    · intro y0 y1 y2 y3 y4 y5 y6 y7 y8
      unfold bywashlaw17_PingQuiet.l0
      repeat' first
      | (with_reducible exact ih0 _ _ _ _)
      | (with_reducible exact ih1 _ _ _ _ _ _ _ _ _)
      | (with_reducible exact ih2 _ _ _ _ _ _ _ _ _ _ _ _)
      | (with_reducible exact ih3 _ _ _ _ _ _ _ _ _)
      | (with_reducible exact bywashlaw17_alive.mono _)
      | (with_reducible exact bywashref1_Big.mono _ _ _)
      | (with_reducible exact ping_Health_Got.mono _ _ _ _ _ _ _ _)
      | (with_reducible exact ping_Health_Tick.mono _ _ _ _ _ _ _)
      | (with_reducible exact LeO.refl _)
      | (with_reducible exact LeO.none _)
      | (with_reducible refine LeO.ite ?_ ?_)
      | (with_reducible refine LeO.bind ?_ (fun _ => ?_))
      | exact ih0 _ _ _ _
      | exact ih1 _ _ _ _ _ _ _ _ _
      | exact ih2 _ _ _ _ _ _ _ _ _ _ _ _
      | exact ih3 _ _ _ _ _ _ _ _ _
      | exact bywashlaw17_alive.mono _
      | exact bywashref1_Big.mono _ _ _
      | exact ping_Health_Got.mono _ _ _ _ _ _ _ _
      | exact ping_Health_Tick.mono _ _ _ _ _ _ _
      | exact LeO.none _
      | refine LeO.ite ?_ ?_
      | refine LeO.bind ?_ (fun _ => ?_)
    · intro y0 y1 y2 y3 y4 y5 y6 y7 y8 y9 y10 y11
      unfold bywashlaw17_PingQuiet.l1
      repeat' first
      | (with_reducible exact ih0 _ _ _ _)
      | (with_reducible exact ih1 _ _ _ _ _ _ _ _ _)
      | (with_reducible exact ih2 _ _ _ _ _ _ _ _ _ _ _ _)
      | (with_reducible exact ih3 _ _ _ _ _ _ _ _ _)
      | (with_reducible exact bywashlaw17_alive.mono _)
      | (with_reducible exact bywashref1_Big.mono _ _ _)
      | (with_reducible exact ping_Health_Got.mono _ _ _ _ _ _ _ _)
      | (with_reducible exact ping_Health_Tick.mono _ _ _ _ _ _ _)
      | (with_reducible exact LeO.refl _)
      | (with_reducible exact LeO.none _)
      | (with_reducible refine LeO.ite ?_ ?_)
      | (with_reducible refine LeO.bind ?_ (fun _ => ?_))
      | exact ih0 _ _ _ _
      | exact ih1 _ _ _ _ _ _ _ _ _
      | exact ih2 _ _ _ _ _ _ _ _ _ _ _ _
      | exact ih3 _ _ _ _ _ _ _ _ _
      | exact bywashlaw17_alive.mono _
      | exact bywashref1_Big.mono _ _ _
      | exact ping_Health_Got.mono _ _ _ _ _ _ _ _
      | exact ping_Health_Tick.mono _ _ _ _ _ _ _
      | exact LeO.none _
      | refine LeO.ite ?_ ?_
      | refine LeO.bind ?_ (fun _ => ?_)
    · intro y0 y1 y2 y3 y4 y5 y6 y7 y8
      unfold bywashlaw17_PingQuiet.l2
      repeat' first
      | (with_reducible exact ih0 _ _ _ _)
      | (with_reducible exact ih1 _ _ _ _ _ _ _ _ _)
      | (with_reducible exact ih2 _ _ _ _ _ _ _ _ _ _ _ _)
      | (with_reducible exact ih3 _ _ _ _ _ _ _ _ _)
      | (with_reducible exact bywashlaw17_alive.mono _)
      | (with_reducible exact bywashref1_Big.mono _ _ _)
      | (with_reducible exact ping_Health_Got.mono _ _ _ _ _ _ _ _)
      | (with_reducible exact ping_Health_Tick.mono _ _ _ _ _ _ _)
      | (with_reducible exact LeO.refl _)
      | (with_reducible exact LeO.none _)
      | (with_reducible refine LeO.ite ?_ ?_)
      | (with_reducible refine LeO.bind ?_ (fun _ => ?_))
      | exact ih0 _ _ _ _
      | exact ih1 _ _ _ _ _ _ _ _ _
      | exact ih2 _ _ _ _ _ _ _ _ _ _ _ _
      | exact ih3 _ _ _ _ _ _ _ _ _
      | exact bywashlaw17_alive.mono _
      | exact bywashref1_Big.mono _ _ _
      | exact ping_Health_Got.mono _ _ _ _ _ _ _ _
      | exact ping_Health_Tick.mono _ _ _ _ _ _ _
      | exact LeO.none _
      | refine LeO.ite ?_ ?_
      | refine LeO.bind ?_ (fun _ => ?_)
theorem bywashlaw17_PingQuiet.mono : ∀ a0 a1 a2 k, LeO (bywashlaw17_PingQuiet.f k a0 a1 a2) (bywashlaw17_PingQuiet.f (k + 1) a0 a1 a2) := by
  intro a0 a1 a2 k
  obtain ⟨ih0, ih1, ih2, ih3⟩ := bywashlaw17_PingQuiet.mono_l k
  unfold bywashlaw17_PingQuiet.f
  repeat' first
      | (with_reducible exact ih0 _ _ _ _)
      | (with_reducible exact ih1 _ _ _ _ _ _ _ _ _)
      | (with_reducible exact ih2 _ _ _ _ _ _ _ _ _ _ _ _)
      | (with_reducible exact ih3 _ _ _ _ _ _ _ _ _)
      | (with_reducible exact bywashlaw17_alive.mono _)
      | (with_reducible exact bywashref1_Big.mono _ _ _)
      | (with_reducible exact ping_Health_Got.mono _ _ _ _ _ _ _ _)
      | (with_reducible exact ping_Health_Tick.mono _ _ _ _ _ _ _)
      | (with_reducible exact LeO.refl _)
      | (with_reducible exact LeO.none _)
      | (with_reducible refine LeO.ite ?_ ?_)
      | (with_reducible refine LeO.bind ?_ (fun _ => ?_))
      | exact ih0 _ _ _ _
      | exact ih1 _ _ _ _ _ _ _ _ _
      | exact ih2 _ _ _ _ _ _ _ _ _ _ _ _
      | exact ih3 _ _ _ _ _ _ _ _ _
      | exact bywashlaw17_alive.mono _
      | exact bywashref1_Big.mono _ _ _
      | exact ping_Health_Got.mono _ _ _ _ _ _ _ _
      | exact ping_Health_Tick.mono _ _ _ _ _ _ _
      | exact LeO.none _
      | refine LeO.ite ?_ ?_
      | refine LeO.bind ?_ (fun _ => ?_)
set_option maxHeartbeats 8000000 in
set_option maxRecDepth 100000 in
theorem bywashlaw17_PingQuiet.calls (k : Nat) (a0 : Int) (a1 : Int) (A2 : Option Addr) (c2 : Nat) (l2 : List ByteArray) (r : Bool) (w : World) (hr2 : Kd.C Kd.string w A2 l2.length l2) (hc2 : l2.length ≤ c2) (h : bywashlaw17_PingQuiet.f k a0 a1 l2 = some r) :
    Calls Try.prog 6 #[.int .i64 a0, .int .i64 a1, .slice A2 l2.length c2] w fun e w' => e = .returned (.bool r) ∧ Below w.heap.size w w' := by
  have HR2 := Aside0.mk hr2
  have HC2 := Aside0.mk hc2
  clear hr2 hc2
  have HB := Aside0.mk (Below.refl w.heap.size w)
  have H : (if a0 < 1 then (bywashlaw17_PingQuiet.j0 k a0 a1 l2 true) else (if a1 < 1 then (bywashlaw17_PingQuiet.j0 k a0 a1 l2 true) else (if a0 > 50 then (bywashlaw17_PingQuiet.j0 k a0 a1 l2 true) else (if a1 > 50 then (bywashlaw17_PingQuiet.j0 k a0 a1 l2 true) else (if (l2.length : Int) > 30 then (bywashlaw17_PingQuiet.j0 k a0 a1 l2 true) else ((bywashlaw17_alive.f k).bind fun t173 => (bywashlaw17_PingQuiet.j0 k a0 a1 l2 (!t173)))))))) = some r := h
  clear h
  have HC4 := Aside0.mk H
  clear H
  go_enter Try.func6, Try.ntmps6
  go_upto_region 1 with (fail)
  go_cut [35] (fun v35 wc => ∃ (kq : Nat) (x35_3 : Bool), v35 = .bool x35_3 ∧ Aside0 (bywashlaw17_PingQuiet.j0 kq a0 a1 l2 x35_3 = some r) ∧ Aside0 (kq ≤ k) ∧ Aside0 (Below w.heap.size w wc))
  case first =>
    have H := HC4.out
    clear HC4
    by_cases c5 : a0 < 1
    · rw [if_pos c5] at H
      have c5b0 : decide (a0 < 1) = true := decide_eq_true c5
      clear c5
      (first | rw [c5b0] | (simp only [i64_w, i32_w]; rw [c5b0]) | skip)
      have H' := Aside0.mk H
      clear H
      go_wp2
      go_meet
      case rel => exact ⟨_, (true), (by first | rfl | (simp; done) | (simp [*]; done)), H', ⟨by first | omega | exact Nat.le_refl _⟩, ⟨by repeat (first | (with_reducible first | exact HB.out | apply below_alloc | apply pw_below_drewN | apply below_drew1) | exact HB.out)⟩⟩
    · rw [if_neg c5] at H
      have c5b0 : decide (a0 < 1) = false := decide_eq_false c5
      clear c5
      (first | rw [c5b0] | (simp only [i64_w, i32_w]; rw [c5b0]) | skip)
      by_cases c6 : a1 < 1
      · rw [if_pos c6] at H
        have c6b0 : decide (a1 < 1) = true := decide_eq_true c6
        clear c6
        have H' := Aside0.mk H
        clear H
        go_wp2
        go_meet
        case rel => exact ⟨_, (true), (by first | rfl | (simp; done) | (simp [*]; done)), H', ⟨by first | omega | exact Nat.le_refl _⟩, ⟨by repeat (first | (with_reducible first | exact HB.out | apply below_alloc | apply pw_below_drewN | apply below_drew1) | exact HB.out)⟩⟩
      · rw [if_neg c6] at H
        have c6b0 : decide (a1 < 1) = false := decide_eq_false c6
        clear c6
        by_cases c7 : a0 > 50
        · rw [if_pos c7] at H
          have c7b0 : decide (50 < a0) = true := decide_eq_true c7
          clear c7
          have H' := Aside0.mk H
          clear H
          go_wp2
          go_meet
          case rel => exact ⟨_, (true), (by first | rfl | (simp; done) | (simp [*]; done)), H', ⟨by first | omega | exact Nat.le_refl _⟩, ⟨by repeat (first | (with_reducible first | exact HB.out | apply below_alloc | apply pw_below_drewN | apply below_drew1) | exact HB.out)⟩⟩
        · rw [if_neg c7] at H
          have c7b0 : decide (50 < a0) = false := decide_eq_false c7
          clear c7
          by_cases c8 : a1 > 50
          · rw [if_pos c8] at H
            have c8b0 : decide (50 < a1) = true := decide_eq_true c8
            clear c8
            have H' := Aside0.mk H
            clear H
            go_wp2
            go_meet
            case rel => exact ⟨_, (true), (by first | rfl | (simp; done) | (simp [*]; done)), H', ⟨by first | omega | exact Nat.le_refl _⟩, ⟨by repeat (first | (with_reducible first | exact HB.out | apply below_alloc | apply pw_below_drewN | apply below_drew1) | exact HB.out)⟩⟩
          · rw [if_neg c8] at H
            have c8b0 : decide (50 < a1) = false := decide_eq_false c8
            clear c8
            by_cases c9 : (l2.length : Int) > 30
            · rw [if_pos c9] at H
              have c9b0 : decide (30 < (l2.length : Int)) = true := decide_eq_true c9
              have c9b1 : decide (30 < l2.length) = true := decide_eq_true (by omega)
              clear c9
              have H' := Aside0.mk H
              clear H
              go_wp2
              go_meet
              case rel => exact ⟨_, (true), (by first | rfl | (simp; done) | (simp [*]; done)), H', ⟨by first | omega | exact Nat.le_refl _⟩, ⟨by repeat (first | (with_reducible first | exact HB.out | apply below_alloc | apply pw_below_drewN | apply below_drew1) | exact HB.out)⟩⟩
            · rw [if_neg c9] at H
              have c9b0 : decide (30 < (l2.length : Int)) = false := decide_eq_false c9
              have c9b1 : decide (30 < l2.length) = false := decide_eq_false (by omega)
              clear c9
              replace H := Option.bind_eq_some_iff.mp H
              obtain ⟨t173, A100, H⟩ := H
              replace H : (bywashlaw17_PingQuiet.j0 k a0 a1 l2 (!t173)) = some r := H
              have A10 := Aside0.mk A100
              clear A100
              have H' := Aside0.mk H
              clear H
              go_wp2_with (first | (go_at_call 8; (with_reducible refine (bywashlaw17_alive.calls k  t173 _ A10.out).mono ?_); rintro e w11 ⟨rfl, hb⟩; have n0_ := Aside0.mk (below_step (by repeat (first | (with_reducible first | exact HB.out | apply below_alloc | apply pw_below_drewN | apply below_drew1) | exact HB.out)) hb); clear HB; have HB := n0_; clear n0_; (try clear hb); (try clear hb2); (try clear hk); (try clear hi)))
              go_meet
              case rel => exact ⟨_, (!t173), (by first | rfl | (simp; done) | (simp [*]; done)), H', ⟨by first | omega | exact Nat.le_refl _⟩, ⟨by repeat (first | (with_reducible first | exact HB.out | apply below_alloc | apply pw_below_drewN | apply below_drew1) | exact HB.out)⟩⟩
  case rest =>
    clear HC4
    try clear c2
    try clear p2
    try clear c5
    try clear c5b0
    try clear c6
    try clear c6b0
    try clear c7
    try clear c7b0
    try clear c8
    try clear c8b0
    try clear c9
    try clear c9b0
    try clear c9b1
    obtain ⟨kq, x35_3, rfl, HA, HJ3, HB⟩ := hcut
    cases kq with
    | zero => exact absurd HA.out (by simp [bywashlaw17_PingQuiet.j0])
    | succ kj3 =>
      have H := HA.out
      clear HA
      simp only [bywashlaw17_PingQuiet.j0] at H
      by_cases c12 : x35_3 = true
      · subst c12
        have H1 : ((bywashlaw17_alive.f kj3).bind fun t174 => (some t174)) = some r := by rw [if_pos rfl] at H; exact H
        clear H
        have H := H1
        clear H1
        replace H := Option.bind_eq_some_iff.mp H
        obtain ⟨t174, A130, H⟩ := H
        replace H : (some t174) = some r := H
        have A13 := Aside0.mk A130
        clear A130
        obtain rfl := Option.some.inj H
        go_wp2_with (first | ((with_reducible refine gate_callee (f := 8) rfl ?_); refine goesL_ (some 36) rfl rfl Try.func8 (by kernel_rfl) rfl #[] rfl (by (try simp only [List.map_toArray, List.map_cons, List.map_nil]); first | done | rfl | (simp only [List.length_drop, List.length_take]; rfl)) ?_; (with_reducible refine (bywashlaw17_alive.calls kj3  t174 _ A13.out).mono ?_); rintro e w14 ⟨rfl, hb⟩; refine ⟨_, rfl, ?_⟩; have n0_ := Aside0.mk (below_step (by repeat (first | (with_reducible first | exact HB.out | apply below_alloc | apply pw_below_drewN | apply below_drew1) | exact HB.out)) hb); clear HB; have HB := n0_; clear n0_; (try clear hb); (try clear hb2); (try clear hk); (try clear hi)))
        go_ret
        exact ⟨by first | rfl | (simp [errW_none, errW_some] <;> rfl) | (simp [*, errW_none, errW_some] <;> rfl), by repeat (first | (with_reducible first | exact HB.out | apply below_alloc | apply pw_below_drewN | apply below_drew1) | exact HB.out)⟩
      · replace c12 := Bool.eq_false_iff.mpr c12
        subst c12
        have H1 : ((ping_New.f a0 a1).bind fun bt175 => (bywashlaw17_PingQuiet.l0 kj3 a0 l2 0 bt175.1 bt175.2.1 bt175.2.2.1 bt175.2.2.2.1 bt175.2.2.2.2.1 bt175.2.2.2.2.2)) = some r := by rw [if_neg (show ¬ (false = true) by decide)] at H; exact H
        clear H
        have H := H1
        clear H1
        replace H := Option.bind_eq_some_iff.mp H
        obtain ⟨⟨t175, t176, t177, t178, t179, t180⟩, A150, H⟩ := H
        replace H : (bywashlaw17_PingQuiet.l0 kj3 a0 l2 0 t175 t176 t177 t178 t179 t180) = some r := H
        have A15 := Aside0.mk A150
        clear A150
        have H' := Aside0.mk H
        clear H
        go_wp2_with (first | ((with_reducible refine gate_callee (f := 9) rfl ?_); refine goesL_ (some 39) rfl rfl Try.func9 (by kernel_rfl) rfl #[.int .i64 a0, .int .i64 a1] rfl (by (try simp only [List.map_toArray, List.map_cons, List.map_nil]); first | done | rfl | (simp only [List.length_drop, List.length_take]; rfl)) ?_; (with_reducible refine (ping_New.calls a0 a1 t175 t176 t177 t178 t179 t180 w _ ?side1 A15.out).mono ?_); (case side1 => repeat (first | (with_reducible first | exact HB.out | apply below_alloc | apply pw_below_drewN | apply below_drew1) | exact HB.out)); rintro e w16 ⟨g181, rfl, hi, hb, hb2⟩; refine ⟨_, rfl, ?_⟩; have n0_ := Aside0.mk (hb); have n1_ := Aside0.mk (hi); clear HB; have HB := n0_; have HI181 := n1_; clear n0_ n1_; (try clear hb); (try clear hb2); (try clear hk); (try clear hi)))
        go_loopg [8] kj3 (fun kq v8 w' => ∃ (x8_2 : Int) (x182000_2 : Int) (x182001_2 : Int) (x182002_2 : Int) (x182003_2 : Int) (x182004_2 : Bool) (x182005_2 : Bool), v8 = .int .i64 x8_2 ∧ Aside0 (bywashlaw17_PingQuiet.l0 kq a0 l2 x8_2 x182000_2 x182001_2 x182002_2 x182003_2 x182004_2 x182005_2 = some r) ∧ Aside0 (kq ≤ kj3) ∧ Aside0 (IsS42 w w' g181 x182000_2 x182001_2 x182002_2 x182003_2 x182004_2 x182005_2) ∧ Aside0 (Below w.heap.size w w'))
        case atStart => exact ⟨(0), (t175), (t176), (t177), (t178), (t179), (t180), (by first | rfl | (simp; done) | (simp [*]; done)), H', ⟨Nat.le_refl _⟩, ⟨by repeat (first | (with_reducible first | exact HI181.out | apply IsS42.alloc | apply IsS42.drewN | apply IsS42.drew | apply IsS42.set_0 | apply IsS42.set_1 | apply IsS42.set_2 | apply IsS42.set_3 | apply IsS42.set_4 | apply IsS42.set_5) | exact HI181.out)⟩, ⟨by repeat (first | (with_reducible first | exact HB.out | apply below_alloc | apply pw_below_drewN | apply below_drew1 | refine below_set ?_ (IsS42.ge HI181.out)) | exact HB.out)⟩⟩
        case round =>
          clear H'
          try clear c1
          try clear c2
          try clear p2
          try clear c5
          try clear c5b0
          try clear c6
          try clear c6b0
          try clear c7
          try clear c7b0
          try clear c8
          try clear c8b0
          try clear c9
          try clear c9b0
          try clear c9b1
          try clear c12
          try clear p2
          obtain ⟨x8_2, x182000_2, x182001_2, x182002_2, x182003_2, x182004_2, x182005_2, rfl, HA, HK2, HI181, HB⟩ := hrel
          cases gk with
          | zero => exact absurd HA.out (by simp [bywashlaw17_PingQuiet.l0])
          | succ k2 =>
            have H := HA.out
            clear HA
            simp only [bywashlaw17_PingQuiet.l0] at H
            by_cases c17 : x8_2 < a0
            · rw [if_pos c17] at H
              have c17b0 : decide (x8_2 < a0) = true := decide_eq_true c17
              clear c17
              have H' := Aside0.mk H
              clear H
              go_wp2
              go_loopg [49] k2 (fun kq v49 w' => ∃ (x49_3 : Int) (x182000_3 : Int) (x182001_3 : Int) (x182002_3 : Int) (x182003_3 : Int) (x182004_3 : Bool) (x182005_3 : Bool), v49 = .int .i64 x49_3 ∧ Aside0 (bywashlaw17_PingQuiet.l1 kq a0 l2 x8_2 l2 (l2.length : Int) x49_3 x182000_3 x182001_3 x182002_3 x182003_3 x182004_3 x182005_3 = some r) ∧ Aside0 (kq ≤ k2) ∧ Aside0 (IsS42 w w' g181 x182000_3 x182001_3 x182002_3 x182003_3 x182004_3 x182005_3) ∧ Aside0 (Below w.heap.size w w'))
              case atStart => exact ⟨(0), (x182000_2), (x182001_2), (x182002_2), (x182003_2), (x182004_2), (x182005_2), (by first | rfl | (simp; done) | (simp [*]; done)), H', ⟨Nat.le_refl _⟩, ⟨by repeat (first | (with_reducible first | exact HI181.out | apply IsS42.alloc | apply IsS42.drewN | apply IsS42.drew | apply IsS42.set_0 | apply IsS42.set_1 | apply IsS42.set_2 | apply IsS42.set_3 | apply IsS42.set_4 | apply IsS42.set_5) | exact HI181.out)⟩, ⟨by repeat (first | (with_reducible first | exact HB.out | apply below_alloc | apply pw_below_drewN | apply below_drew1 | refine below_set ?_ (IsS42.ge HI181.out)) | exact HB.out)⟩⟩
              case round =>
                clear H'
                try clear c1
                try clear c2
                try clear p2
                try clear c5
                try clear c5b0
                try clear c6
                try clear c6b0
                try clear c7
                try clear c7b0
                try clear c8
                try clear c8b0
                try clear c9
                try clear c9b0
                try clear c9b1
                try clear c12
                try clear c17
                try clear c17b0
                try clear p2
                obtain ⟨x49_3, x182000_3, x182001_3, x182002_3, x182003_3, x182004_3, x182005_3, rfl, HA, HK3, HI181, HB⟩ := hrel
                cases gk with
                | zero => exact absurd HA.out (by simp [bywashlaw17_PingQuiet.l1])
                | succ k3 =>
                  have H := HA.out
                  clear HA
                  simp only [bywashlaw17_PingQuiet.l1] at H
                  by_cases c18 : x49_3 < (l2.length : Int)
                  · rw [if_pos c18] at H
                    have c18b0 : decide (x49_3 < (l2.length : Int)) = true := decide_eq_true c18
                    clear c18
                    by_cases c19 : 0 ≤ x49_3
                    · rw [if_pos c19] at H
                      have c19b0 : decide (0 ≤ x49_3) = true := decide_eq_true c19
                      clear c19
                      by_cases c20 : x49_3 < (l2.length : Int)
                      · rw [if_pos c20] at H
                        have c20b0 : decide (x49_3 < (l2.length : Int)) = true := decide_eq_true c20
                        clear c20
                        replace H := Option.bind_eq_some_iff.mp H
                        obtain ⟨⟨t191, t192, t193, t194, t195, t196, t197⟩, A210, H⟩ := H
                        replace H : (if t191 = true then (some false) else ((ping_Health_Waits.f t192 t193 t194 t195 t196 t197).bind fun bt198 => (if bt198.1 = true then (some false) else (bywashlaw17_PingQuiet.l1 k3 a0 l2 x8_2 l2 (l2.length : Int) (wrap64 (x49_3 + 1)) bt198.2.1 bt198.2.2.1 bt198.2.2.2.1 bt198.2.2.2.2.1 bt198.2.2.2.2.2.1 bt198.2.2.2.2.2.2)))) = some r := H
                        have A21 := Aside0.mk A210
                        clear A210
                        by_cases c22 : t191 = true
                        · subst c22
                          have H1 : (some false) = some r := by rw [if_pos rfl] at H; exact H
                          clear H
                          have H := H1
                          clear H1
                          obtain rfl := Option.some.inj H
                          have p190 : 0 ≤ (x49_3 : Int) := of_decide_eq_true (by first | (with_reducible assumption) | assumption)
                          have q190 : x49_3 < (l2.length : Int) := of_decide_eq_true (by first | (with_reducible assumption) | assumption)
                          obtain ⟨ad190, e190, hx190_0⟩ := Kd.at_string HR2.out x49_3 p190 q190
                          cases e190
                          replace hx190_0 := (HB.out.cell (World.block_lt_of_cell? w _ hx190_0)).trans hx190_0
                          replace p190 := eq_true p190
                          replace q190 := eq_true q190
                          go_wp2_with (first | ((with_reducible refine gate_callee (f := 11) rfl ?_); refine goesL_ (some 55) rfl rfl Try.func11 (by kernel_rfl) rfl #[.pointer (some ⟨g181, 0, none⟩), .string (rdOf ByteArray.empty l2 x49_3)] rfl (by (try simp only [List.map_toArray, List.map_cons, List.map_nil]); first | done | rfl | (simp only [List.length_drop, List.length_take]; rfl)) ?_; (with_reducible refine (ping_Health_Got.calls k3 g181 x182000_3 x182001_3 x182002_3 x182003_3 x182004_3 x182005_3 (rdOf ByteArray.empty l2 x49_3) true t192 t193 t194 t195 t196 t197 w _ ?side1 ?side2 A21.out).mono ?_); (case side1 => repeat (first | (with_reducible first | exact HI181.out | apply IsS42.alloc | apply IsS42.drewN | apply IsS42.drew | apply IsS42.set_0 | apply IsS42.set_1 | apply IsS42.set_2 | apply IsS42.set_3 | apply IsS42.set_4 | apply IsS42.set_5) | exact HI181.out)); (case side2 => repeat (first | (with_reducible first | exact HB.out | apply below_alloc | apply pw_below_drewN | apply below_drew1 | refine below_set ?_ (IsS42.ge HI181.out)) | exact HB.out)); rintro e w23 ⟨rfl, hi, hb, hk⟩; refine ⟨_, rfl, ?_⟩; have n0_ := Aside0.mk (hb); have n1_ := Aside0.mk (hi); clear HB; clear HI181; have HB := n0_; have HI181 := n1_; clear n0_ n1_; (try clear hb); (try clear hb2); (try clear hk); (try clear hi)))
                          go_ret
                          exact ⟨by first | rfl | (simp [errW_none, errW_some] <;> rfl) | (simp [*, errW_none, errW_some] <;> rfl), by repeat (first | (with_reducible first | exact HB.out | apply below_alloc | apply pw_below_drewN | apply below_drew1 | refine below_set ?_ (IsS42.ge HI181.out)) | exact HB.out)⟩
                        · replace c22 := Bool.eq_false_iff.mpr c22
                          subst c22
                          have H1 : ((ping_Health_Waits.f t192 t193 t194 t195 t196 t197).bind fun bt198 => (if bt198.1 = true then (some false) else (bywashlaw17_PingQuiet.l1 k3 a0 l2 x8_2 l2 (l2.length : Int) (wrap64 (x49_3 + 1)) bt198.2.1 bt198.2.2.1 bt198.2.2.2.1 bt198.2.2.2.2.1 bt198.2.2.2.2.2.1 bt198.2.2.2.2.2.2))) = some r := by rw [if_neg (show ¬ (false = true) by decide)] at H; exact H
                          clear H
                          have H := H1
                          clear H1
                          replace H := Option.bind_eq_some_iff.mp H
                          obtain ⟨⟨t198, t199, t200, t201, t202, t203, t204⟩, A240, H⟩ := H
                          replace H : (if t198 = true then (some false) else (bywashlaw17_PingQuiet.l1 k3 a0 l2 x8_2 l2 (l2.length : Int) (wrap64 (x49_3 + 1)) t199 t200 t201 t202 t203 t204)) = some r := H
                          have A24 := Aside0.mk A240
                          clear A240
                          by_cases c25 : t198 = true
                          · subst c25
                            have H1 : (some false) = some r := by rw [if_pos rfl] at H; exact H
                            clear H
                            have H := H1
                            clear H1
                            obtain rfl := Option.some.inj H
                            have p190 : 0 ≤ (x49_3 : Int) := of_decide_eq_true (by first | (with_reducible assumption) | assumption)
                            have q190 : x49_3 < (l2.length : Int) := of_decide_eq_true (by first | (with_reducible assumption) | assumption)
                            obtain ⟨ad190, e190, hx190_0⟩ := Kd.at_string HR2.out x49_3 p190 q190
                            cases e190
                            replace hx190_0 := (HB.out.cell (World.block_lt_of_cell? w _ hx190_0)).trans hx190_0
                            replace p190 := eq_true p190
                            replace q190 := eq_true q190
                            go_wp2_with (first | ((with_reducible refine gate_callee (f := 11) rfl ?_); refine goesL_ (some 55) rfl rfl Try.func11 (by kernel_rfl) rfl #[.pointer (some ⟨g181, 0, none⟩), .string (rdOf ByteArray.empty l2 x49_3)] rfl (by (try simp only [List.map_toArray, List.map_cons, List.map_nil]); first | done | rfl | (simp only [List.length_drop, List.length_take]; rfl)) ?_; (with_reducible refine (ping_Health_Got.calls k3 g181 x182000_3 x182001_3 x182002_3 x182003_3 x182004_3 x182005_3 (rdOf ByteArray.empty l2 x49_3) false t192 t193 t194 t195 t196 t197 w _ ?side1 ?side2 A21.out).mono ?_); (case side1 => repeat (first | (with_reducible first | exact HI181.out | apply IsS42.alloc | apply IsS42.drewN | apply IsS42.drew | apply IsS42.set_0 | apply IsS42.set_1 | apply IsS42.set_2 | apply IsS42.set_3 | apply IsS42.set_4 | apply IsS42.set_5) | exact HI181.out)); (case side2 => repeat (first | (with_reducible first | exact HB.out | apply below_alloc | apply pw_below_drewN | apply below_drew1 | refine below_set ?_ (IsS42.ge HI181.out)) | exact HB.out)); rintro e w26 ⟨rfl, hi, hb, hk⟩; refine ⟨_, rfl, ?_⟩; have n0_ := Aside0.mk (hb); have n1_ := Aside0.mk (hi); clear HB; clear HI181; have HB := n0_; have HI181 := n1_; clear n0_ n1_; (try clear hb); (try clear hb2); (try clear hk); (try clear hi)) | (go_at_call 12; (with_reducible refine (ping_Health_Waits.calls g181 t192 t193 t194 t195 t196 t197 true t199 t200 t201 t202 t203 t204 w _ ?side1 ?side2 A24.out).mono ?_); (case side1 => repeat (first | (with_reducible first | exact HI181.out | apply IsS42.alloc | apply IsS42.drewN | apply IsS42.drew | apply IsS42.set_0 | apply IsS42.set_1 | apply IsS42.set_2 | apply IsS42.set_3 | apply IsS42.set_4 | apply IsS42.set_5) | exact HI181.out)); (case side2 => repeat (first | (with_reducible first | exact HB.out | apply below_alloc | apply pw_below_drewN | apply below_drew1 | refine below_set ?_ (IsS42.ge HI181.out)) | exact HB.out)); rintro e w27 ⟨rfl, hi, hb, hk⟩; have n0_ := Aside0.mk (hb); have n1_ := Aside0.mk (hi); clear HB; clear HI181; have HB := n0_; have HI181 := n1_; clear n0_ n1_; (try clear hb); (try clear hb2); (try clear hk); (try clear hi)))
                            go_ret
                            exact ⟨by first | rfl | (simp [errW_none, errW_some] <;> rfl) | (simp [*, errW_none, errW_some] <;> rfl), by repeat (first | (with_reducible first | exact HB.out | apply below_alloc | apply pw_below_drewN | apply below_drew1 | refine below_set ?_ (IsS42.ge HI181.out)) | exact HB.out)⟩
                          · replace c25 := Bool.eq_false_iff.mpr c25
                            subst c25
                            have H1 : (bywashlaw17_PingQuiet.l1 k3 a0 l2 x8_2 l2 (l2.length : Int) (wrap64 (x49_3 + 1)) t199 t200 t201 t202 t203 t204) = some r := by rw [if_neg (show ¬ (false = true) by decide)] at H; exact H
                            clear H
                            have H := H1
                            clear H1
                            have H' := Aside0.mk H
                            clear H
                            have p190 : 0 ≤ (x49_3 : Int) := of_decide_eq_true (by first | (with_reducible assumption) | assumption)
                            have q190 : x49_3 < (l2.length : Int) := of_decide_eq_true (by first | (with_reducible assumption) | assumption)
                            obtain ⟨ad190, e190, hx190_0⟩ := Kd.at_string HR2.out x49_3 p190 q190
                            cases e190
                            replace hx190_0 := (HB.out.cell (World.block_lt_of_cell? w _ hx190_0)).trans hx190_0
                            replace p190 := eq_true p190
                            replace q190 := eq_true q190
                            go_wp2_with (first | ((with_reducible refine gate_callee (f := 11) rfl ?_); refine goesL_ (some 55) rfl rfl Try.func11 (by kernel_rfl) rfl #[.pointer (some ⟨g181, 0, none⟩), .string (rdOf ByteArray.empty l2 x49_3)] rfl (by (try simp only [List.map_toArray, List.map_cons, List.map_nil]); first | done | rfl | (simp only [List.length_drop, List.length_take]; rfl)) ?_; (with_reducible refine (ping_Health_Got.calls k3 g181 x182000_3 x182001_3 x182002_3 x182003_3 x182004_3 x182005_3 (rdOf ByteArray.empty l2 x49_3) false t192 t193 t194 t195 t196 t197 w _ ?side1 ?side2 A21.out).mono ?_); (case side1 => repeat (first | (with_reducible first | exact HI181.out | apply IsS42.alloc | apply IsS42.drewN | apply IsS42.drew | apply IsS42.set_0 | apply IsS42.set_1 | apply IsS42.set_2 | apply IsS42.set_3 | apply IsS42.set_4 | apply IsS42.set_5) | exact HI181.out)); (case side2 => repeat (first | (with_reducible first | exact HB.out | apply below_alloc | apply pw_below_drewN | apply below_drew1 | refine below_set ?_ (IsS42.ge HI181.out)) | exact HB.out)); rintro e w28 ⟨rfl, hi, hb, hk⟩; refine ⟨_, rfl, ?_⟩; have n0_ := Aside0.mk (hb); have n1_ := Aside0.mk (hi); clear HB; clear HI181; have HB := n0_; have HI181 := n1_; clear n0_ n1_; (try clear hb); (try clear hb2); (try clear hk); (try clear hi)) | (go_at_call 12; (with_reducible refine (ping_Health_Waits.calls g181 t192 t193 t194 t195 t196 t197 false t199 t200 t201 t202 t203 t204 w _ ?side1 ?side2 A24.out).mono ?_); (case side1 => repeat (first | (with_reducible first | exact HI181.out | apply IsS42.alloc | apply IsS42.drewN | apply IsS42.drew | apply IsS42.set_0 | apply IsS42.set_1 | apply IsS42.set_2 | apply IsS42.set_3 | apply IsS42.set_4 | apply IsS42.set_5) | exact HI181.out)); (case side2 => repeat (first | (with_reducible first | exact HB.out | apply below_alloc | apply pw_below_drewN | apply below_drew1 | refine below_set ?_ (IsS42.ge HI181.out)) | exact HB.out)); rintro e w29 ⟨rfl, hi, hb, hk⟩; have n0_ := Aside0.mk (hb); have n1_ := Aside0.mk (hi); clear HB; clear HI181; have HB := n0_; have HI181 := n1_; clear n0_ n1_; (try clear hb); (try clear hb2); (try clear hk); (try clear hi)))
                            go_roundg k3
                            case measure => have := HJ3.out; have := HK2.out; have := HK3.out; omega
                            case rel => exact ⟨(wrap64 (x49_3 + 1)), (t199), (t200), (t201), (t202), (t203), (t204), (by first | rfl | (simp; done) | (simp [*]; done)), H', ⟨by have := HJ3.out; have := HK2.out; have := HK3.out; omega⟩, ⟨by repeat (first | (with_reducible first | exact HI181.out | apply IsS42.alloc | apply IsS42.drewN | apply IsS42.drew | apply IsS42.set_0 | apply IsS42.set_1 | apply IsS42.set_2 | apply IsS42.set_3 | apply IsS42.set_4 | apply IsS42.set_5) | exact HI181.out)⟩, ⟨by repeat (first | (with_reducible first | exact HB.out | apply below_alloc | apply pw_below_drewN | apply below_drew1 | refine below_set ?_ (IsS42.ge HI181.out)) | exact HB.out)⟩⟩
                      · rw [if_neg c20] at H
                        exact absurd H (by simp)
                    · rw [if_neg c19] at H
                      exact absurd H (by simp)
                  · rw [if_neg c18] at H
                    have c18b0 : decide (x49_3 < (l2.length : Int)) = false := decide_eq_false c18
                    clear c18
                    replace H := Option.bind_eq_some_iff.mp H
                    obtain ⟨⟨t182, t183, t184, t185, t186, t187, t188, t189⟩, A300, H⟩ := H
                    replace H : (bywashlaw17_PingQuiet.l0 k3 a0 l2 (wrap64 (x8_2 + 1)) t184 t185 t186 t187 t188 t189) = some r := H
                    have A30 := Aside0.mk A300
                    clear A300
                    have H' := Aside0.mk H
                    clear H
                    go_wp2_with (first | ((with_reducible refine gate_callee (f := 10) rfl ?_); refine goesL_ (some 62) rfl rfl Try.func10 (by kernel_rfl) rfl #[.pointer (some ⟨g181, 0, none⟩)] rfl (by (try simp only [List.map_toArray, List.map_cons, List.map_nil]); first | done | rfl | (simp only [List.length_drop, List.length_take]; rfl)) ?_; (with_reducible refine (ping_Health_Tick.calls k3 g181 x182000_3 x182001_3 x182002_3 x182003_3 x182004_3 x182005_3 t182 t183 t184 t185 t186 t187 t188 t189 w _ ?side1 ?side2 A30.out).mono ?_); (case side1 => repeat (first | (with_reducible first | exact HI181.out | apply IsS42.alloc | apply IsS42.drewN | apply IsS42.drew | apply IsS42.set_0 | apply IsS42.set_1 | apply IsS42.set_2 | apply IsS42.set_3 | apply IsS42.set_4 | apply IsS42.set_5) | exact HI181.out)); (case side2 => repeat (first | (with_reducible first | exact HB.out | apply below_alloc | apply pw_below_drewN | apply below_drew1 | refine below_set ?_ (IsS42.ge HI181.out)) | exact HB.out)); rintro e w31 ⟨rfl, hi, hb, hk⟩; refine ⟨_, rfl, ?_⟩; have n0_ := Aside0.mk (hb); have n1_ := Aside0.mk (hi); clear HB; clear HI181; have HB := n0_; have HI181 := n1_; clear n0_ n1_; (try clear hb); (try clear hb2); (try clear hk); (try clear hi)))
                    go_roundg k3
                    case measure => have := HJ3.out; have := HK2.out; have := HK3.out; omega
                    case rel => exact ⟨(wrap64 (x8_2 + 1)), (t184), (t185), (t186), (t187), (t188), (t189), (by first | rfl | (simp; done) | (simp [*]; done)), H', ⟨by have := HJ3.out; have := HK2.out; have := HK3.out; omega⟩, ⟨by repeat (first | (with_reducible first | exact HI181.out | apply IsS42.alloc | apply IsS42.drewN | apply IsS42.drew | apply IsS42.set_0 | apply IsS42.set_1 | apply IsS42.set_2 | apply IsS42.set_3 | apply IsS42.set_4 | apply IsS42.set_5) | exact HI181.out)⟩, ⟨by repeat (first | (with_reducible first | exact HB.out | apply below_alloc | apply pw_below_drewN | apply below_drew1 | refine below_set ?_ (IsS42.ge HI181.out)) | exact HB.out)⟩⟩
            · rw [if_neg c17] at H
              have c17b0 : decide (x8_2 < a0) = false := decide_eq_false c17
              clear c17
              have H' := Aside0.mk H
              clear H
              go_wp2
              go_loopg [65] k2 (fun kq v65 w' => ∃ (x65_3 : Int) (x182000_3 : Int) (x182001_3 : Int) (x182002_3 : Int) (x182003_3 : Int) (x182004_3 : Bool) (x182005_3 : Bool), v65 = .int .i64 x65_3 ∧ Aside0 (bywashlaw17_PingQuiet.l2 kq l2 (l2.length : Int) x65_3 x182000_3 x182001_3 x182002_3 x182003_3 x182004_3 x182005_3 = some r) ∧ Aside0 (kq ≤ k2) ∧ Aside0 (IsS42 w w' g181 x182000_3 x182001_3 x182002_3 x182003_3 x182004_3 x182005_3) ∧ Aside0 (Below w.heap.size w w'))
              case atStart => exact ⟨(0), (x182000_2), (x182001_2), (x182002_2), (x182003_2), (x182004_2), (x182005_2), (by first | rfl | (simp; done) | (simp [*]; done)), H', ⟨Nat.le_refl _⟩, ⟨by repeat (first | (with_reducible first | exact HI181.out | apply IsS42.alloc | apply IsS42.drewN | apply IsS42.drew | apply IsS42.set_0 | apply IsS42.set_1 | apply IsS42.set_2 | apply IsS42.set_3 | apply IsS42.set_4 | apply IsS42.set_5) | exact HI181.out)⟩, ⟨by repeat (first | (with_reducible first | exact HB.out | apply below_alloc | apply pw_below_drewN | apply below_drew1 | refine below_set ?_ (IsS42.ge HI181.out)) | exact HB.out)⟩⟩
              case round =>
                clear H'
                try clear c1
                try clear p1
                try clear q1
                try clear hx1
                try clear c2
                try clear p2
                try clear c5
                try clear c5b0
                try clear c6
                try clear c6b0
                try clear p6
                try clear c7
                try clear c7b0
                try clear c8
                try clear c8b0
                try clear c9
                try clear c9b0
                try clear c9b1
                try clear c10
                try clear c11
                try clear c12
                try clear c17
                try clear c17b0
                try clear c18
                try clear c18b0
                try clear c19
                try clear c19b0
                try clear p19
                try clear q19
                try clear hx19
                try clear c20
                try clear c20b0
                try clear c22
                try clear c25
                try clear hx190_0
                try clear p190
                try clear p2
                try clear q190
                obtain ⟨x65_3, x182000_3, x182001_3, x182002_3, x182003_3, x182004_3, x182005_3, rfl, HA, HK3, HI181, HB⟩ := hrel
                cases gk with
                | zero => exact absurd HA.out (by simp [bywashlaw17_PingQuiet.l2])
                | succ k3 =>
                  have H := HA.out
                  clear HA
                  simp only [bywashlaw17_PingQuiet.l2] at H
                  by_cases c32 : x65_3 < (l2.length : Int)
                  · rw [if_pos c32] at H
                    have c32b0 : decide (x65_3 < (l2.length : Int)) = true := decide_eq_true c32
                    clear c32
                    by_cases c33 : 0 ≤ x65_3
                    · rw [if_pos c33] at H
                      have c33b0 : decide (0 ≤ x65_3) = true := decide_eq_true c33
                      clear c33
                      by_cases c34 : x65_3 < (l2.length : Int)
                      · rw [if_pos c34] at H
                        have c34b0 : decide (x65_3 < (l2.length : Int)) = true := decide_eq_true c34
                        clear c34
                        replace H := Option.bind_eq_some_iff.mp H
                        obtain ⟨t220, A350, H⟩ := H
                        replace H : (if (rdOf ByteArray.empty l2 x65_3).toList = t220.toList then (bywashlaw17_PingQuiet.l2 k3 l2 (l2.length : Int) (wrap64 (x65_3 + 1)) x182000_3 x182001_3 x182002_3 x182003_3 x182004_3 x182005_3) else ((ping_Health_Got.f k3 x182000_3 x182001_3 x182002_3 x182003_3 x182004_3 x182005_3 (rdOf ByteArray.empty l2 x65_3)).bind fun bt221 => (if bt221.1 = true then (some false) else ((ping_Health_Waits.f bt221.2.1 bt221.2.2.1 bt221.2.2.2.1 bt221.2.2.2.2.1 bt221.2.2.2.2.2.1 bt221.2.2.2.2.2.2).bind fun bt228 => (if bt228.1 = true then (bywashlaw17_PingQuiet.l2 k3 l2 (l2.length : Int) (wrap64 (x65_3 + 1)) bt228.2.1 bt228.2.2.1 bt228.2.2.2.1 bt228.2.2.2.2.1 bt228.2.2.2.2.2.1 bt228.2.2.2.2.2.2) else (some false)))))) = some r := H
                        have A35 := Aside0.mk A350
                        clear A350
                        by_cases c36 : (rdOf ByteArray.empty l2 x65_3).toList = t220.toList
                        · rw [if_pos c36] at H
                          have c36b0 : ((rdOf ByteArray.empty l2 x65_3).toList == t220.toList) = true := beq_iff_eq.mpr c36
                          have c36b1 : ((rdOf ByteArray.empty l2 x65_3).toList != t220.toList) = false := bne_eq_false_iff_eq.mpr c36
                          clear c36
                          have H' := Aside0.mk H
                          clear H
                          have p219 : 0 ≤ (x65_3 : Int) := of_decide_eq_true (by first | (with_reducible assumption) | assumption)
                          have q219 : x65_3 < (l2.length : Int) := of_decide_eq_true (by first | (with_reducible assumption) | assumption)
                          obtain ⟨ad219, e219, hx219_0⟩ := Kd.at_string HR2.out x65_3 p219 q219
                          cases e219
                          replace hx219_0 := (HB.out.cell (World.block_lt_of_cell? w _ hx219_0)).trans hx219_0
                          replace p219 := eq_true p219
                          replace q219 := eq_true q219
                          go_wp2_with (first | ((with_reducible refine gate_callee (f := 16) rfl ?_); refine goesL_ (some 70) rfl rfl Try.func16 (by kernel_rfl) rfl #[.int .i64 1, .int .i64 8] rfl (by (try simp only [List.map_toArray, List.map_cons, List.map_nil]); first | done | rfl | (simp only [List.length_drop, List.length_take]; rfl)) ?_; (with_reducible refine (bywashref1_Big.calls k3 1 8 t220 _ A35.out).mono ?_); rintro e w37 ⟨rfl, hb⟩; refine ⟨_, rfl, ?_⟩; have n0_ := Aside0.mk (IsS42.below (by repeat (first | (with_reducible first | exact HI181.out | apply IsS42.alloc | apply IsS42.drewN | apply IsS42.drew | apply IsS42.set_0 | apply IsS42.set_1 | apply IsS42.set_2 | apply IsS42.set_3 | apply IsS42.set_4 | apply IsS42.set_5) | exact HI181.out)) hb); have n1_ := Aside0.mk (below_step (by repeat (first | (with_reducible first | exact HB.out | apply below_alloc | apply pw_below_drewN | apply below_drew1 | refine below_set ?_ (IsS42.ge HI181.out)) | exact HB.out)) hb); clear HI181; clear HB; have HI181 := n0_; have HB := n1_; clear n0_ n1_; (try clear hb); (try clear hb2); (try clear hk); (try clear hi)))
                          go_roundg k3
                          case measure => have := HJ3.out; have := HK2.out; have := HK3.out; omega
                          case rel => exact ⟨(wrap64 (x65_3 + 1)), (x182000_3), (x182001_3), (x182002_3), (x182003_3), (x182004_3), (x182005_3), (by first | rfl | (simp; done) | (simp [*]; done)), H', ⟨by have := HJ3.out; have := HK2.out; have := HK3.out; omega⟩, ⟨by repeat (first | (with_reducible first | exact HI181.out | apply IsS42.alloc | apply IsS42.drewN | apply IsS42.drew | apply IsS42.set_0 | apply IsS42.set_1 | apply IsS42.set_2 | apply IsS42.set_3 | apply IsS42.set_4 | apply IsS42.set_5) | exact HI181.out)⟩, ⟨by repeat (first | (with_reducible first | exact HB.out | apply below_alloc | apply pw_below_drewN | apply below_drew1 | refine below_set ?_ (IsS42.ge HI181.out)) | exact HB.out)⟩⟩
                        · rw [if_neg c36] at H
                          have c36b0 : ((rdOf ByteArray.empty l2 x65_3).toList == t220.toList) = false := beq_eq_false_iff_ne.mpr c36
                          have c36b1 : ((rdOf ByteArray.empty l2 x65_3).toList != t220.toList) = true := bne_iff_ne.mpr c36
                          replace H := Option.bind_eq_some_iff.mp H
                          obtain ⟨⟨t221, t222, t223, t224, t225, t226, t227⟩, A380, H⟩ := H
                          replace H : (if t221 = true then (some false) else ((ping_Health_Waits.f t222 t223 t224 t225 t226 t227).bind fun bt228 => (if bt228.1 = true then (bywashlaw17_PingQuiet.l2 k3 l2 (l2.length : Int) (wrap64 (x65_3 + 1)) bt228.2.1 bt228.2.2.1 bt228.2.2.2.1 bt228.2.2.2.2.1 bt228.2.2.2.2.2.1 bt228.2.2.2.2.2.2) else (some false)))) = some r := H
                          have A38 := Aside0.mk A380
                          clear A380
                          by_cases c39 : t221 = true
                          · subst c39
                            have H1 : (some false) = some r := by rw [if_pos rfl] at H; exact H
                            clear H
                            have H := H1
                            clear H1
                            obtain rfl := Option.some.inj H
                            have p219 : 0 ≤ (x65_3 : Int) := of_decide_eq_true (by first | (with_reducible assumption) | assumption)
                            have q219 : x65_3 < (l2.length : Int) := of_decide_eq_true (by first | (with_reducible assumption) | assumption)
                            obtain ⟨ad219, e219, hx219_0⟩ := Kd.at_string HR2.out x65_3 p219 q219
                            cases e219
                            replace hx219_0 := (HB.out.cell (World.block_lt_of_cell? w _ hx219_0)).trans hx219_0
                            replace p219 := eq_true p219
                            replace q219 := eq_true q219
                            go_wp2_with (first | ((with_reducible refine gate_callee (f := 16) rfl ?_); refine goesL_ (some 70) rfl rfl Try.func16 (by kernel_rfl) rfl #[.int .i64 1, .int .i64 8] rfl (by (try simp only [List.map_toArray, List.map_cons, List.map_nil]); first | done | rfl | (simp only [List.length_drop, List.length_take]; rfl)) ?_; (with_reducible refine (bywashref1_Big.calls k3 1 8 t220 _ A35.out).mono ?_); rintro e w40 ⟨rfl, hb⟩; refine ⟨_, rfl, ?_⟩; have n0_ := Aside0.mk (IsS42.below (by repeat (first | (with_reducible first | exact HI181.out | apply IsS42.alloc | apply IsS42.drewN | apply IsS42.drew | apply IsS42.set_0 | apply IsS42.set_1 | apply IsS42.set_2 | apply IsS42.set_3 | apply IsS42.set_4 | apply IsS42.set_5) | exact HI181.out)) hb); have n1_ := Aside0.mk (below_step (by repeat (first | (with_reducible first | exact HB.out | apply below_alloc | apply pw_below_drewN | apply below_drew1 | refine below_set ?_ (IsS42.ge HI181.out)) | exact HB.out)) hb); clear HI181; clear HB; have HI181 := n0_; have HB := n1_; clear n0_ n1_; (try clear hb); (try clear hb2); (try clear hk); (try clear hi)) | (go_at_call 11; (with_reducible refine (ping_Health_Got.calls k3 g181 x182000_3 x182001_3 x182002_3 x182003_3 x182004_3 x182005_3 (rdOf ByteArray.empty l2 x65_3) true t222 t223 t224 t225 t226 t227 w _ ?side1 ?side2 A38.out).mono ?_); (case side1 => repeat (first | (with_reducible first | exact HI181.out | apply IsS42.alloc | apply IsS42.drewN | apply IsS42.drew | apply IsS42.set_0 | apply IsS42.set_1 | apply IsS42.set_2 | apply IsS42.set_3 | apply IsS42.set_4 | apply IsS42.set_5) | exact HI181.out)); (case side2 => repeat (first | (with_reducible first | exact HB.out | apply below_alloc | apply pw_below_drewN | apply below_drew1 | refine below_set ?_ (IsS42.ge HI181.out)) | exact HB.out)); rintro e w41 ⟨rfl, hi, hb, hk⟩; have n0_ := Aside0.mk (hb); have n1_ := Aside0.mk (hi); clear HB; clear HI181; have HB := n0_; have HI181 := n1_; clear n0_ n1_; (try clear hb); (try clear hb2); (try clear hk); (try clear hi)))
                            go_ret
                            exact ⟨by first | rfl | (simp [errW_none, errW_some] <;> rfl) | (simp [*, errW_none, errW_some] <;> rfl), by repeat (first | (with_reducible first | exact HB.out | apply below_alloc | apply pw_below_drewN | apply below_drew1 | refine below_set ?_ (IsS42.ge HI181.out)) | exact HB.out)⟩
                          · replace c39 := Bool.eq_false_iff.mpr c39
                            subst c39
                            have H1 : ((ping_Health_Waits.f t222 t223 t224 t225 t226 t227).bind fun bt228 => (if bt228.1 = true then (bywashlaw17_PingQuiet.l2 k3 l2 (l2.length : Int) (wrap64 (x65_3 + 1)) bt228.2.1 bt228.2.2.1 bt228.2.2.2.1 bt228.2.2.2.2.1 bt228.2.2.2.2.2.1 bt228.2.2.2.2.2.2) else (some false))) = some r := by rw [if_neg (show ¬ (false = true) by decide)] at H; exact H
                            clear H
                            have H := H1
                            clear H1
                            replace H := Option.bind_eq_some_iff.mp H
                            obtain ⟨⟨t228, t229, t230, t231, t232, t233, t234⟩, A420, H⟩ := H
                            replace H : (if t228 = true then (bywashlaw17_PingQuiet.l2 k3 l2 (l2.length : Int) (wrap64 (x65_3 + 1)) t229 t230 t231 t232 t233 t234) else (some false)) = some r := H
                            have A42 := Aside0.mk A420
                            clear A420
                            by_cases c43 : t228 = true
                            · subst c43
                              have H1 : (bywashlaw17_PingQuiet.l2 k3 l2 (l2.length : Int) (wrap64 (x65_3 + 1)) t229 t230 t231 t232 t233 t234) = some r := by rw [if_pos rfl] at H; exact H
                              clear H
                              have H := H1
                              clear H1
                              have H' := Aside0.mk H
                              clear H
                              have p219 : 0 ≤ (x65_3 : Int) := of_decide_eq_true (by first | (with_reducible assumption) | assumption)
                              have q219 : x65_3 < (l2.length : Int) := of_decide_eq_true (by first | (with_reducible assumption) | assumption)
                              obtain ⟨ad219, e219, hx219_0⟩ := Kd.at_string HR2.out x65_3 p219 q219
                              cases e219
                              replace hx219_0 := (HB.out.cell (World.block_lt_of_cell? w _ hx219_0)).trans hx219_0
                              replace p219 := eq_true p219
                              replace q219 := eq_true q219
                              go_wp2_with (first | ((with_reducible refine gate_callee (f := 16) rfl ?_); refine goesL_ (some 70) rfl rfl Try.func16 (by kernel_rfl) rfl #[.int .i64 1, .int .i64 8] rfl (by (try simp only [List.map_toArray, List.map_cons, List.map_nil]); first | done | rfl | (simp only [List.length_drop, List.length_take]; rfl)) ?_; (with_reducible refine (bywashref1_Big.calls k3 1 8 t220 _ A35.out).mono ?_); rintro e w44 ⟨rfl, hb⟩; refine ⟨_, rfl, ?_⟩; have n0_ := Aside0.mk (IsS42.below (by repeat (first | (with_reducible first | exact HI181.out | apply IsS42.alloc | apply IsS42.drewN | apply IsS42.drew | apply IsS42.set_0 | apply IsS42.set_1 | apply IsS42.set_2 | apply IsS42.set_3 | apply IsS42.set_4 | apply IsS42.set_5) | exact HI181.out)) hb); have n1_ := Aside0.mk (below_step (by repeat (first | (with_reducible first | exact HB.out | apply below_alloc | apply pw_below_drewN | apply below_drew1 | refine below_set ?_ (IsS42.ge HI181.out)) | exact HB.out)) hb); clear HI181; clear HB; have HI181 := n0_; have HB := n1_; clear n0_ n1_; (try clear hb); (try clear hb2); (try clear hk); (try clear hi)) | (go_at_call 11; (with_reducible refine (ping_Health_Got.calls k3 g181 x182000_3 x182001_3 x182002_3 x182003_3 x182004_3 x182005_3 (rdOf ByteArray.empty l2 x65_3) false t222 t223 t224 t225 t226 t227 w _ ?side1 ?side2 A38.out).mono ?_); (case side1 => repeat (first | (with_reducible first | exact HI181.out | apply IsS42.alloc | apply IsS42.drewN | apply IsS42.drew | apply IsS42.set_0 | apply IsS42.set_1 | apply IsS42.set_2 | apply IsS42.set_3 | apply IsS42.set_4 | apply IsS42.set_5) | exact HI181.out)); (case side2 => repeat (first | (with_reducible first | exact HB.out | apply below_alloc | apply pw_below_drewN | apply below_drew1 | refine below_set ?_ (IsS42.ge HI181.out)) | exact HB.out)); rintro e w45 ⟨rfl, hi, hb, hk⟩; have n0_ := Aside0.mk (hb); have n1_ := Aside0.mk (hi); clear HB; clear HI181; have HB := n0_; have HI181 := n1_; clear n0_ n1_; (try clear hb); (try clear hb2); (try clear hk); (try clear hi)) | (go_at_call 12; (with_reducible refine (ping_Health_Waits.calls g181 t222 t223 t224 t225 t226 t227 true t229 t230 t231 t232 t233 t234 w _ ?side1 ?side2 A42.out).mono ?_); (case side1 => repeat (first | (with_reducible first | exact HI181.out | apply IsS42.alloc | apply IsS42.drewN | apply IsS42.drew | apply IsS42.set_0 | apply IsS42.set_1 | apply IsS42.set_2 | apply IsS42.set_3 | apply IsS42.set_4 | apply IsS42.set_5) | exact HI181.out)); (case side2 => repeat (first | (with_reducible first | exact HB.out | apply below_alloc | apply pw_below_drewN | apply below_drew1 | refine below_set ?_ (IsS42.ge HI181.out)) | exact HB.out)); rintro e w46 ⟨rfl, hi, hb, hk⟩; have n0_ := Aside0.mk (hb); have n1_ := Aside0.mk (hi); clear HB; clear HI181; have HB := n0_; have HI181 := n1_; clear n0_ n1_; (try clear hb); (try clear hb2); (try clear hk); (try clear hi)))
                              go_roundg k3
                              case measure => have := HJ3.out; have := HK2.out; have := HK3.out; omega
                              case rel => exact ⟨(wrap64 (x65_3 + 1)), (t229), (t230), (t231), (t232), (t233), (t234), (by first | rfl | (simp; done) | (simp [*]; done)), H', ⟨by have := HJ3.out; have := HK2.out; have := HK3.out; omega⟩, ⟨by repeat (first | (with_reducible first | exact HI181.out | apply IsS42.alloc | apply IsS42.drewN | apply IsS42.drew | apply IsS42.set_0 | apply IsS42.set_1 | apply IsS42.set_2 | apply IsS42.set_3 | apply IsS42.set_4 | apply IsS42.set_5) | exact HI181.out)⟩, ⟨by repeat (first | (with_reducible first | exact HB.out | apply below_alloc | apply pw_below_drewN | apply below_drew1 | refine below_set ?_ (IsS42.ge HI181.out)) | exact HB.out)⟩⟩
                            · replace c43 := Bool.eq_false_iff.mpr c43
                              subst c43
                              have H1 : (some false) = some r := by rw [if_neg (show ¬ (false = true) by decide)] at H; exact H
                              clear H
                              have H := H1
                              clear H1
                              obtain rfl := Option.some.inj H
                              have p219 : 0 ≤ (x65_3 : Int) := of_decide_eq_true (by first | (with_reducible assumption) | assumption)
                              have q219 : x65_3 < (l2.length : Int) := of_decide_eq_true (by first | (with_reducible assumption) | assumption)
                              obtain ⟨ad219, e219, hx219_0⟩ := Kd.at_string HR2.out x65_3 p219 q219
                              cases e219
                              replace hx219_0 := (HB.out.cell (World.block_lt_of_cell? w _ hx219_0)).trans hx219_0
                              replace p219 := eq_true p219
                              replace q219 := eq_true q219
                              go_wp2_with (first | ((with_reducible refine gate_callee (f := 16) rfl ?_); refine goesL_ (some 70) rfl rfl Try.func16 (by kernel_rfl) rfl #[.int .i64 1, .int .i64 8] rfl (by (try simp only [List.map_toArray, List.map_cons, List.map_nil]); first | done | rfl | (simp only [List.length_drop, List.length_take]; rfl)) ?_; (with_reducible refine (bywashref1_Big.calls k3 1 8 t220 _ A35.out).mono ?_); rintro e w47 ⟨rfl, hb⟩; refine ⟨_, rfl, ?_⟩; have n0_ := Aside0.mk (IsS42.below (by repeat (first | (with_reducible first | exact HI181.out | apply IsS42.alloc | apply IsS42.drewN | apply IsS42.drew | apply IsS42.set_0 | apply IsS42.set_1 | apply IsS42.set_2 | apply IsS42.set_3 | apply IsS42.set_4 | apply IsS42.set_5) | exact HI181.out)) hb); have n1_ := Aside0.mk (below_step (by repeat (first | (with_reducible first | exact HB.out | apply below_alloc | apply pw_below_drewN | apply below_drew1 | refine below_set ?_ (IsS42.ge HI181.out)) | exact HB.out)) hb); clear HI181; clear HB; have HI181 := n0_; have HB := n1_; clear n0_ n1_; (try clear hb); (try clear hb2); (try clear hk); (try clear hi)) | (go_at_call 11; (with_reducible refine (ping_Health_Got.calls k3 g181 x182000_3 x182001_3 x182002_3 x182003_3 x182004_3 x182005_3 (rdOf ByteArray.empty l2 x65_3) false t222 t223 t224 t225 t226 t227 w _ ?side1 ?side2 A38.out).mono ?_); (case side1 => repeat (first | (with_reducible first | exact HI181.out | apply IsS42.alloc | apply IsS42.drewN | apply IsS42.drew | apply IsS42.set_0 | apply IsS42.set_1 | apply IsS42.set_2 | apply IsS42.set_3 | apply IsS42.set_4 | apply IsS42.set_5) | exact HI181.out)); (case side2 => repeat (first | (with_reducible first | exact HB.out | apply below_alloc | apply pw_below_drewN | apply below_drew1 | refine below_set ?_ (IsS42.ge HI181.out)) | exact HB.out)); rintro e w48 ⟨rfl, hi, hb, hk⟩; have n0_ := Aside0.mk (hb); have n1_ := Aside0.mk (hi); clear HB; clear HI181; have HB := n0_; have HI181 := n1_; clear n0_ n1_; (try clear hb); (try clear hb2); (try clear hk); (try clear hi)) | (go_at_call 12; (with_reducible refine (ping_Health_Waits.calls g181 t222 t223 t224 t225 t226 t227 false t229 t230 t231 t232 t233 t234 w _ ?side1 ?side2 A42.out).mono ?_); (case side1 => repeat (first | (with_reducible first | exact HI181.out | apply IsS42.alloc | apply IsS42.drewN | apply IsS42.drew | apply IsS42.set_0 | apply IsS42.set_1 | apply IsS42.set_2 | apply IsS42.set_3 | apply IsS42.set_4 | apply IsS42.set_5) | exact HI181.out)); (case side2 => repeat (first | (with_reducible first | exact HB.out | apply below_alloc | apply pw_below_drewN | apply below_drew1 | refine below_set ?_ (IsS42.ge HI181.out)) | exact HB.out)); rintro e w49 ⟨rfl, hi, hb, hk⟩; have n0_ := Aside0.mk (hb); have n1_ := Aside0.mk (hi); clear HB; clear HI181; have HB := n0_; have HI181 := n1_; clear n0_ n1_; (try clear hb); (try clear hb2); (try clear hk); (try clear hi)))
                              go_ret
                              exact ⟨by first | rfl | (simp [errW_none, errW_some] <;> rfl) | (simp [*, errW_none, errW_some] <;> rfl), by repeat (first | (with_reducible first | exact HB.out | apply below_alloc | apply pw_below_drewN | apply below_drew1 | refine below_set ?_ (IsS42.ge HI181.out)) | exact HB.out)⟩
                      · rw [if_neg c34] at H
                        exact absurd H (by simp)
                    · rw [if_neg c33] at H
                      exact absurd H (by simp)
                  · rw [if_neg c32] at H
                    have c32b0 : decide (x65_3 < (l2.length : Int)) = false := decide_eq_false c32
                    clear c32
                    replace H := Option.bind_eq_some_iff.mp H
                    obtain ⟨⟨t205, t206, t207, t208, t209, t210, t211⟩, A500, H⟩ := H
                    replace H : (if t205 = 1 then ((ping_Health_Waits.f t206 t207 t208 t209 t210 t211).bind fun bt212 => (some bt212.1)) else (some false)) = some r := H
                    have A50 := Aside0.mk A500
                    clear A500
                    by_cases c51 : t205 = 1
                    · rw [if_pos c51] at H
                      have c51b0 : (t205 == 1) = true := beq_iff_eq.mpr c51
                      have c51b1 : (t205 != 1) = false := bne_eq_false_iff_eq.mpr c51
                      clear c51
                      replace H := Option.bind_eq_some_iff.mp H
                      obtain ⟨⟨t212, t213, t214, t215, t216, t217, t218⟩, A520, H⟩ := H
                      replace H : (some t212) = some r := H
                      have A52 := Aside0.mk A520
                      clear A520
                      obtain rfl := Option.some.inj H
                      go_wp2_with (first | ((with_reducible refine gate_callee (f := 13) rfl ?_); refine goesL_ (some 84) rfl rfl Try.func13 (by kernel_rfl) rfl #[.pointer (some ⟨g181, 0, none⟩)] rfl (by (try simp only [List.map_toArray, List.map_cons, List.map_nil]); first | done | rfl | (simp only [List.length_drop, List.length_take]; rfl)) ?_; (with_reducible refine (ping_Health_Sent.calls g181 x182000_3 x182001_3 x182002_3 x182003_3 x182004_3 x182005_3 t205 t206 t207 t208 t209 t210 t211 w _ ?side1 ?side2 A50.out).mono ?_); (case side1 => repeat (first | (with_reducible first | exact HI181.out | apply IsS42.alloc | apply IsS42.drewN | apply IsS42.drew | apply IsS42.set_0 | apply IsS42.set_1 | apply IsS42.set_2 | apply IsS42.set_3 | apply IsS42.set_4 | apply IsS42.set_5) | exact HI181.out)); (case side2 => repeat (first | (with_reducible first | exact HB.out | apply below_alloc | apply pw_below_drewN | apply below_drew1 | refine below_set ?_ (IsS42.ge HI181.out)) | exact HB.out)); rintro e w53 ⟨rfl, hi, hb, hk⟩; refine ⟨_, rfl, ?_⟩; have n0_ := Aside0.mk (hb); have n1_ := Aside0.mk (hi); clear HB; clear HI181; have HB := n0_; have HI181 := n1_; clear n0_ n1_; (try clear hb); (try clear hb2); (try clear hk); (try clear hi)) | (go_at_call 12; (with_reducible refine (ping_Health_Waits.calls g181 t206 t207 t208 t209 t210 t211 t212 t213 t214 t215 t216 t217 t218 w _ ?side1 ?side2 A52.out).mono ?_); (case side1 => repeat (first | (with_reducible first | exact HI181.out | apply IsS42.alloc | apply IsS42.drewN | apply IsS42.drew | apply IsS42.set_0 | apply IsS42.set_1 | apply IsS42.set_2 | apply IsS42.set_3 | apply IsS42.set_4 | apply IsS42.set_5) | exact HI181.out)); (case side2 => repeat (first | (with_reducible first | exact HB.out | apply below_alloc | apply pw_below_drewN | apply below_drew1 | refine below_set ?_ (IsS42.ge HI181.out)) | exact HB.out)); rintro e w54 ⟨rfl, hi, hb, hk⟩; have n0_ := Aside0.mk (hb); have n1_ := Aside0.mk (hi); clear HB; clear HI181; have HB := n0_; have HI181 := n1_; clear n0_ n1_; (try clear hb); (try clear hb2); (try clear hk); (try clear hi)))
                      go_ret
                      exact ⟨by first | rfl | (simp [errW_none, errW_some] <;> rfl) | (simp [*, errW_none, errW_some] <;> rfl), by repeat (first | (with_reducible first | exact HB.out | apply below_alloc | apply pw_below_drewN | apply below_drew1 | refine below_set ?_ (IsS42.ge HI181.out)) | exact HB.out)⟩
                    · rw [if_neg c51] at H
                      have c51b0 : (t205 == 1) = false := beq_eq_false_iff_ne.mpr c51
                      have c51b1 : (t205 != 1) = true := bne_iff_ne.mpr c51
                      obtain rfl := Option.some.inj H
                      go_wp2_with (first | ((with_reducible refine gate_callee (f := 13) rfl ?_); refine goesL_ (some 84) rfl rfl Try.func13 (by kernel_rfl) rfl #[.pointer (some ⟨g181, 0, none⟩)] rfl (by (try simp only [List.map_toArray, List.map_cons, List.map_nil]); first | done | rfl | (simp only [List.length_drop, List.length_take]; rfl)) ?_; (with_reducible refine (ping_Health_Sent.calls g181 x182000_3 x182001_3 x182002_3 x182003_3 x182004_3 x182005_3 t205 t206 t207 t208 t209 t210 t211 w _ ?side1 ?side2 A50.out).mono ?_); (case side1 => repeat (first | (with_reducible first | exact HI181.out | apply IsS42.alloc | apply IsS42.drewN | apply IsS42.drew | apply IsS42.set_0 | apply IsS42.set_1 | apply IsS42.set_2 | apply IsS42.set_3 | apply IsS42.set_4 | apply IsS42.set_5) | exact HI181.out)); (case side2 => repeat (first | (with_reducible first | exact HB.out | apply below_alloc | apply pw_below_drewN | apply below_drew1 | refine below_set ?_ (IsS42.ge HI181.out)) | exact HB.out)); rintro e w55 ⟨rfl, hi, hb, hk⟩; refine ⟨_, rfl, ?_⟩; have n0_ := Aside0.mk (hb); have n1_ := Aside0.mk (hi); clear HB; clear HI181; have HB := n0_; have HI181 := n1_; clear n0_ n1_; (try clear hb); (try clear hb2); (try clear hk); (try clear hi)))
                      go_ret
                      exact ⟨by first | rfl | (simp [errW_none, errW_some] <;> rfl) | (simp [*, errW_none, errW_some] <;> rfl), by repeat (first | (with_reducible first | exact HB.out | apply below_alloc | apply pw_below_drewN | apply below_drew1 | refine below_set ?_ (IsS42.ge HI181.out)) | exact HB.out)⟩

end Go.Proofs.Ytkakcalabpobpaa.PPingQuiet
