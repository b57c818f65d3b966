/- The law FailTells answers true: the walk. Conditions: that errors.errorType is laid. -/
import Derived.Test.YtogkhpceahdaeaaDoorFailWrap
import Derived.Test.YtogkhpceahdaeaaDoorFailMiss
import Derived.Test.YtogkhpceahdaeaaDoorPFailTellsx1
namespace Go.Proofs.YtogkhpceahdaeaaDoor.Fail
open Go.RowKit Go.Extern.Stop Go.Stop Go.Extern
set_option linter.unusedVariables false
set_option linter.unusedSimpArgs false

theorem code_name (W : World) (c : Int) : Calls Tryd.prog 12 #[.int .i64 c] W fun e w' => e = .returned (.string (nameOf c)) ∧ Below W.heap.size W w' := by
  obtain ⟨r, hr⟩ := name_some c
  have : nameOf c = r := by simp [nameOf, hr]
  rw [this]
  exact PFailTells.bywashref1_Code.calls c r W hr
theorem asN (w : World) : (Instr.typeAssert .nilIface 28 26 true).run Tryd.prog w = .ok (.tuple #[.pointer none, .bool false]) w := by kernel_rfl
theorem is_none_nil (w : World) : Calls Tryd.prog 15 #[.pointer none, .nilIface] w fun e w' => e = .returned (.bool false) ∧ ∃ n, w' = w.drewN n := by
  have ha := asN
  go_enter Tryd.func15, Tryd.ntmps15
  go_wp2
  (try go_quiet (fail))
  (try go_wp2)
  go_ret
  first | exact ⟨rfl, 0, rfl⟩ | exact ⟨rfl, _, rfl⟩ | exact ⟨by simp, _, rfl⟩
theorem is_none_err (w : World) (t : Nat) : Calls Tryd.prog 15 #[.pointer none, err t] w fun e w' => e = .returned (.bool false) ∧ ∃ n, w' = w.drewN n := by
  have ha := asF
  go_enter Tryd.func15, Tryd.ntmps15
  go_wp2
  (try go_quiet (fail))
  (try go_wp2)
  go_ret
  first | exact ⟨rfl, 0, rfl⟩ | exact ⟨rfl, _, rfl⟩ | exact ⟨by simp, _, rfl⟩
theorem is_some_nil (w : World) (b : Nat) : Calls Tryd.prog 15 #[ref b, .nilIface] w fun e w' => e = .returned (.bool false) ∧ ∃ n, w' = w.drewN n := by
  have ha := asN
  go_enter Tryd.func15, Tryd.ntmps15
  go_wp2
  (try go_quiet (fail))
  (try go_wp2)
  go_ret
  first | exact ⟨rfl, 0, rfl⟩ | exact ⟨rfl, _, rfl⟩ | exact ⟨by simp, _, rfl⟩
theorem below_drawn {B : Nat} {a w w2 : World} (h : Below B a w) (hd : ∃ n, w2 = w.drewN n) : Below B a w2 := by obtain ⟨n, rfl⟩ := hd; exact below_drewN h n
theorem three (W : World) (o1 o2 o3 : Obj) : ((((W.alloc o1).alloc o2).alloc o3).heap[W.heap.size]? = some o1 ∧ (((W.alloc o1).alloc o2).alloc o3).heap[W.heap.size + 1]? = some o2 ∧ (((W.alloc o1).alloc o2).alloc o3).heap[W.heap.size + 1 + 1]? = some o3) ∧ Below W.heap.size W (((W.alloc o1).alloc o2).alloc o3) ∧ (((W.alloc o1).alloc o2).alloc o3).heap.size = W.heap.size + 3 := by
  refine ⟨⟨?_, ?_, ?_⟩, belowT (belowT (below_new _ _) (below_new _ _)) (below_new _ _), by rw [sizeA, sizeA, sizeA]⟩
  · rw [heap_old _ _ _ (by rw [sizeA, sizeA]; omega), heap_old _ _ _ (by rw [sizeA]; omega)]; exact heap_new _ _
  · rw [heap_old _ _ _ (by rw [sizeA, sizeA]; omega)]; have := heap_new (W.alloc o1) o2; rwa [sizeA] at this
  · have := heap_new ((W.alloc o1).alloc o2) o3; rwa [sizeA, sizeA] at this
theorem four (W : World) (o1 o2 o3 o4 : Obj) : (((((W.alloc o1).alloc o2).alloc o3).alloc o4).heap[W.heap.size]? = some o1 ∧ ((((W.alloc o1).alloc o2).alloc o3).alloc o4).heap[W.heap.size + 1]? = some o2 ∧ ((((W.alloc o1).alloc o2).alloc o3).alloc o4).heap[W.heap.size + 1 + 1]? = some o3 ∧ ((((W.alloc o1).alloc o2).alloc o3).alloc o4).heap[W.heap.size + 1 + 1 + 1]? = some o4) ∧ Below W.heap.size W ((((W.alloc o1).alloc o2).alloc o3).alloc o4) ∧ ((((W.alloc o1).alloc o2).alloc o3).alloc o4).heap.size = W.heap.size + 4 := by
  have h := three W o1 o2 o3
  refine ⟨⟨?_, ?_, ?_, ?_⟩, belowT h.2.1 (below_new _ _), by rw [sizeA, h.2.2]⟩
  · rw [heap_old _ _ _ (by rw [h.2.2]; omega)]; exact h.1.1
  · rw [heap_old _ _ _ (by rw [h.2.2]; omega)]; exact h.1.2.1
  · rw [heap_old _ _ _ (by rw [h.2.2]; omega)]; exact h.1.2.2
  · have := heap_new (((W.alloc o1).alloc o2).alloc o3) o4; rwa [h.2.2] at this
set_option maxHeartbeats 1000000 in
theorem tell_c_o (W : World) (hL : Laid W) (c : Int) (hc : c ≠ 0) (o : Int) (ho : o ≠ 0) (op : ByteArray) (hs : decide ((60 : Int) < (op.size : Int)) = false) : Calls Tryd.prog 4 #[.int .i64 c, .int .i64 o, .string op] W fun e w' => e = .returned (.bool true) ∧ Below W.heap.size W w' := by
  have HA := alive_true W hL
  have hLH := Lib.hid hL
  have h1 : (c == 0) = false := by simpa using hc
  have N1 := fun w => new_some o ho w
  have N2 := fun w => new_some c hc w
  have J1 := fun w => Join_err w op c 26
  have hbe : (o == c) = (c == o) := BEq.comm
  have hbe := Lib.hid hbe
  have hself := Lib.hid (show ((nameOf c).toList == (nameOf c).toList) = true from by simp)
  clear hL
  go_enter Tryd.func4, Tryd.ntmps4
  go_wp2_with (first | (go_at_call 8; refine HA.mono ?_; rintro e w1 ⟨rfl, hb1⟩; clear HA) | (go_at_call 10; refine (N1 _).mono ?_; rintro e w2 ⟨rfl, rfl⟩; clear N1) | (go_at_call 11; refine (J1 _ _).mono ?_; rintro e w2 ⟨rfl, rfl⟩; clear J1))
  obtain ⟨⟨hF, hG, hAS, hJ⟩, hX, hXs⟩ := four w1 (.cells #[.string op, .int .i64 c, .nilIface] 30) (failure ⟨#[]⟩ o .nilIface) (.cells #[.pointer none] 26) (failure op c (.iface 26 (ref (w1.heap.size + 1))))
  have hF := Lib.hid hF
  have hAS := Lib.hid hAS
  have hJ := Lib.hid hJ
  have hXs := Lib.hid hXs
  have hG := Lib.hid hG
  generalize (((w1.alloc (.cells #[.string op, .int .i64 c, .nilIface] 30)).alloc (failure ⟨#[]⟩ o .nilIface)).alloc (.cells #[.pointer none] 26)).alloc (failure op c (.iface 26 (ref (w1.heap.size + 1)))) = X at *
  have hL1 := Lib.hid (hLH.out.on hb1)
  have hT := Below.refl X.heap.size X
  have U1 := fun w => unwrap_nil w
  have E1 := fun w => Error_none w
  have I1 := fun w => is_none_err w (w1.heap.size + 1)
  have I2 := fun w (h : Below X.heap.size X w) => is_bare w w1.heap.size (w1.heap.size + 1) op c o .nilIface ho ((h.block w1.heap.size (by rw [hXs.out]; omega)).trans hF.out) ((h.block (w1.heap.size + 1) (by rw [hXs.out]; omega)).trans hG.out)
  rw [hbe.out] at I2
  have I3 := fun w t => is_str w w1.heap.size t
  have HAs := fun w (h : Below X.heap.size X w) => As_fail w (hL1.out.on (belowT hX h)) (w1.heap.size + 1 + 1 + 1) (w1.heap.size + 1 + 1) _ ((h.block (w1.heap.size + 1 + 1) (by rw [hXs.out]; omega)).trans hAS.out)
  go_wp2_with (first | (go_at_call 9; refine (name_any _ c).mono ?_; rintro e w5 ⟨rfl, hb5⟩; replace hT := belowT hT hb5; clear hb5; have hself2 := hself.out) | (go_at_call 12; refine (code_name _ c).mono ?_; rintro e w5 ⟨rfl, hb5⟩; replace hT := belowT hT hb5; clear hb5) | (go_at_call 13; refine (E1 _).mono ?_; rintro e w5 ⟨rfl, rfl⟩) | (go_at_call 14; refine (U1 _).mono ?_; rintro e w5 ⟨rfl, rfl⟩) | (go_at_call 15; refine (I1 _).mono ?_; rintro e w5 ⟨rfl, hd⟩; replace hT := below_drawn hT hd; clear hd; clear I1) | (go_at_call 15; refine (I2 _ hT).mono ?_; rintro e w5 ⟨rfl, hd⟩; replace hT := below_drawn hT hd; clear hd; clear I2) | (go_at_call 15; refine (I3 _ _).mono ?_; rintro e w5 ⟨rfl, hd⟩; replace hT := below_drawn hT hd; clear hd; clear I3) | (go_at_call 16; refine (new_str _ _).mono ?_; rintro e w5 ⟨rfl, rfl⟩; replace hT := belowT hT (below_new _ (.cells #[.string ⟨#[120]⟩] 53 (0, 0)))) | (go_at_call 10; refine (N2 _).mono ?_; rintro e w5 ⟨rfl, rfl⟩; clear N2; replace hT := belowT hT (below_new _ (failure ⟨#[]⟩ c .nilIface))) | (go_at_call 17; refine (HAs _ hT).mono ?_; rintro e w6 ⟨rfl, hh, hcg, hbg, hk⟩; clear HAs; have hZ := (belowT hX hT).trans (hbg.mono (by omega)); obtain ⟨c0, c1, c2⟩ := fcells ((hk.out (w1.heap.size + 1 + 1 + 1) (by have := hT.size; rw [hXs.out] at this; omega) (by omega)).trans ((hT.block (w1.heap.size + 1 + 1 + 1) (by rw [hXs.out]; omega)).trans hJ.out)); clear hbg hh hk hT; have hT := Below.refl w6.heap.size w6; have CS := fun w (h : Below w6.heap.size w6 w) => Code_str w (hL1.out.on (belowT hZ h))) | (go_at_call 18; refine (CS _ hT _).mono ?_; rintro e w7 ⟨rfl, hb7⟩; clear CS; replace hT := belowT hT hb7) | (go_at_call 19; refine (Wrap_nil _ _).mono ?_; rintro e w7 ⟨rfl, rfl⟩))
  go_ret
  exact ⟨rfl, belowT hb1 (belowT hZ hT)⟩
set_option maxHeartbeats 1000000 in
theorem tell_c_0 (W : World) (hL : Laid W) (c : Int) (hc : c ≠ 0) (op : ByteArray) (hs : decide ((60 : Int) < (op.size : Int)) = false) : Calls Tryd.prog 4 #[.int .i64 c, .int .i64 0, .string op] W fun e w' => e = .returned (.bool true) ∧ Below W.heap.size W w' := by
  have HA := alive_true W hL
  have hLH := Lib.hid hL
  have h1 : (c == 0) = false := by simpa using hc
  have N1 := fun w => new_zero w
  have N2 := fun w => new_some c hc w
  have J1 := fun w => Join_nil w op c
  have hself := Lib.hid (show ((nameOf c).toList == (nameOf c).toList) = true from by simp)
  clear hL
  go_enter Tryd.func4, Tryd.ntmps4
  go_wp2_with (first | (go_at_call 8; refine HA.mono ?_; rintro e w1 ⟨rfl, hb1⟩; clear HA) | (go_at_call 10; refine (N1 _).mono ?_; rintro e w2 ⟨rfl, rfl⟩; clear N1) | (go_at_call 11; refine (J1 _).mono ?_; rintro e w2 ⟨rfl, rfl⟩; clear J1))
  obtain ⟨⟨hF, hAS, hJ⟩, hX, hXs⟩ := three w1 (.cells #[.string op, .int .i64 c, .nilIface] 30) (.cells #[.pointer none] 26) (failure op c .nilIface)
  have hF := Lib.hid hF
  have hAS := Lib.hid hAS
  have hJ := Lib.hid hJ
  have hXs := Lib.hid hXs
  generalize ((w1.alloc (.cells #[.string op, .int .i64 c, .nilIface] 30)).alloc (.cells #[.pointer none] 26)).alloc (failure op c .nilIface) = X at *
  have hL1 := Lib.hid (hLH.out.on hb1)
  have hT := Below.refl X.heap.size X
  have U1 := fun w => unwrap_nil w
  have E1 := fun w => Error_none w
  have I1 := fun w => is_none_nil w
  have I2 := fun w (h : Below X.heap.size X w) => is_some_nil w w1.heap.size
  have I3 := fun w t => is_str w w1.heap.size t
  have HAs := fun w (h : Below X.heap.size X w) => As_fail w (hL1.out.on (belowT hX h)) (w1.heap.size + 1 + 1) (w1.heap.size + 1) _ ((h.block (w1.heap.size + 1) (by rw [hXs.out]; omega)).trans hAS.out)
  go_wp2_with (first | (go_at_call 9; refine (name_any _ c).mono ?_; rintro e w5 ⟨rfl, hb5⟩; replace hT := belowT hT hb5; clear hb5; have hself2 := hself.out) | (go_at_call 12; refine (code_name _ c).mono ?_; rintro e w5 ⟨rfl, hb5⟩; replace hT := belowT hT hb5; clear hb5) | (go_at_call 13; refine (E1 _).mono ?_; rintro e w5 ⟨rfl, rfl⟩) | (go_at_call 14; refine (U1 _).mono ?_; rintro e w5 ⟨rfl, rfl⟩) | (go_at_call 15; refine (I1 _).mono ?_; rintro e w5 ⟨rfl, hd⟩; replace hT := below_drawn hT hd; clear hd; clear I1) | (go_at_call 15; refine (I2 _ hT).mono ?_; rintro e w5 ⟨rfl, hd⟩; replace hT := below_drawn hT hd; clear hd; clear I2) | (go_at_call 15; refine (I3 _ _).mono ?_; rintro e w5 ⟨rfl, hd⟩; replace hT := below_drawn hT hd; clear hd; clear I3) | (go_at_call 16; refine (new_str _ _).mono ?_; rintro e w5 ⟨rfl, rfl⟩; replace hT := belowT hT (below_new _ (.cells #[.string ⟨#[120]⟩] 53 (0, 0)))) | (go_at_call 10; refine (N2 _).mono ?_; rintro e w5 ⟨rfl, rfl⟩; clear N2; replace hT := belowT hT (below_new _ (failure ⟨#[]⟩ c .nilIface))) | (go_at_call 17; refine (HAs _ hT).mono ?_; rintro e w6 ⟨rfl, hh, hcg, hbg, hk⟩; clear HAs; have hZ := (belowT hX hT).trans (hbg.mono (by omega)); obtain ⟨c0, c1, c2⟩ := fcells ((hk.out (w1.heap.size + 1 + 1) (by have := hT.size; rw [hXs.out] at this; omega) (by omega)).trans ((hT.block (w1.heap.size + 1 + 1) (by rw [hXs.out]; omega)).trans hJ.out)); clear hbg hh hk hT; have hT := Below.refl w6.heap.size w6; have CS := fun w (h : Below w6.heap.size w6 w) => Code_str w (hL1.out.on (belowT hZ h))) | (go_at_call 18; refine (CS _ hT _).mono ?_; rintro e w7 ⟨rfl, hb7⟩; clear CS; replace hT := belowT hT hb7) | (go_at_call 19; refine (Wrap_nil _ _).mono ?_; rintro e w7 ⟨rfl, rfl⟩))
  go_ret
  exact ⟨rfl, belowT hb1 (belowT hZ hT)⟩
set_option maxHeartbeats 1000000 in
theorem tell_0_o (W : World) (hL : Laid W) (o : Int) (ho : o ≠ 0) (op : ByteArray) (hs : decide ((60 : Int) < (op.size : Int)) = false) : Calls Tryd.prog 4 #[.int .i64 0, .int .i64 o, .string op] W fun e w' => e = .returned (.bool true) ∧ Below W.heap.size W w' := by
  have HA := alive_true W hL
  have hLH := Lib.hid hL
  have N1 := fun w => new_some o ho w
  have N2 := fun w => new_zero w
  have J1 := fun w => Join_err w op 0 26
  have hbe : (o == 0) = (0 == o) := BEq.comm
  have hbe := Lib.hid hbe
  have hself := Lib.hid (show ((nameOf 0).toList == (nameOf 0).toList) = true from by simp)
  clear hL
  go_enter Tryd.func4, Tryd.ntmps4
  go_wp2_with (first | (go_at_call 8; refine HA.mono ?_; rintro e w1 ⟨rfl, hb1⟩; clear HA) | (go_at_call 10; refine (N1 _).mono ?_; rintro e w2 ⟨rfl, rfl⟩; clear N1) | (go_at_call 11; refine (J1 _ _).mono ?_; rintro e w2 ⟨rfl, rfl⟩; clear J1))
  obtain ⟨⟨hF, hG, hAS, hJ⟩, hX, hXs⟩ := four w1 (.cells #[.string op, .int .i64 0, .nilIface] 30) (failure ⟨#[]⟩ o .nilIface) (.cells #[.pointer none] 26) (failure op 0 (.iface 26 (ref (w1.heap.size + 1))))
  have hF := Lib.hid hF
  have hAS := Lib.hid hAS
  have hJ := Lib.hid hJ
  have hXs := Lib.hid hXs
  have hG := Lib.hid hG
  generalize (((w1.alloc (.cells #[.string op, .int .i64 0, .nilIface] 30)).alloc (failure ⟨#[]⟩ o .nilIface)).alloc (.cells #[.pointer none] 26)).alloc (failure op 0 (.iface 26 (ref (w1.heap.size + 1)))) = X at *
  have hL1 := Lib.hid (hLH.out.on hb1)
  have hT := Below.refl X.heap.size X
  have U1 := fun w => unwrap_nil w
  have E1 := fun w => Error_none w
  have I1 := fun w => is_none_err w (w1.heap.size + 1)
  have I2 := fun w (h : Below X.heap.size X w) => is_bare w w1.heap.size (w1.heap.size + 1) op 0 o .nilIface ho ((h.block w1.heap.size (by rw [hXs.out]; omega)).trans hF.out) ((h.block (w1.heap.size + 1) (by rw [hXs.out]; omega)).trans hG.out)
  rw [hbe.out] at I2
  have I3 := fun w t => is_str w w1.heap.size t
  have HAs := fun w (h : Below X.heap.size X w) => As_fail w (hL1.out.on (belowT hX h)) (w1.heap.size + 1 + 1 + 1) (w1.heap.size + 1 + 1) _ ((h.block (w1.heap.size + 1 + 1) (by rw [hXs.out]; omega)).trans hAS.out)
  go_wp2_with (first | (go_at_call 9; refine (name_any _ 0).mono ?_; rintro e w5 ⟨rfl, hb5⟩; replace hT := belowT hT hb5; clear hb5; have hself2 := hself.out) | (go_at_call 12; refine (code_name _ 0).mono ?_; rintro e w5 ⟨rfl, hb5⟩; replace hT := belowT hT hb5; clear hb5) | (go_at_call 13; refine (E1 _).mono ?_; rintro e w5 ⟨rfl, rfl⟩) | (go_at_call 14; refine (U1 _).mono ?_; rintro e w5 ⟨rfl, rfl⟩) | (go_at_call 15; refine (I1 _).mono ?_; rintro e w5 ⟨rfl, hd⟩; replace hT := below_drawn hT hd; clear hd; clear I1) | (go_at_call 15; refine (I2 _ hT).mono ?_; rintro e w5 ⟨rfl, hd⟩; replace hT := below_drawn hT hd; clear hd; clear I2) | (go_at_call 15; refine (I3 _ _).mono ?_; rintro e w5 ⟨rfl, hd⟩; replace hT := below_drawn hT hd; clear hd; clear I3) | (go_at_call 16; refine (new_str _ _).mono ?_; rintro e w5 ⟨rfl, rfl⟩; replace hT := belowT hT (below_new _ (.cells #[.string ⟨#[120]⟩] 53 (0, 0)))) | (go_at_call 10; refine (N2 _).mono ?_; rintro e w5 ⟨rfl, rfl⟩; clear N2) | (go_at_call 17; refine (HAs _ hT).mono ?_; rintro e w6 ⟨rfl, hh, hcg, hbg, hk⟩; clear HAs; have hZ := (belowT hX hT).trans (hbg.mono (by omega)); obtain ⟨c0, c1, c2⟩ := fcells ((hk.out (w1.heap.size + 1 + 1 + 1) (by have := hT.size; rw [hXs.out] at this; omega) (by omega)).trans ((hT.block (w1.heap.size + 1 + 1 + 1) (by rw [hXs.out]; omega)).trans hJ.out)); clear hbg hh hk hT; have hT := Below.refl w6.heap.size w6; have CS := fun w (h : Below w6.heap.size w6 w) => Code_str w (hL1.out.on (belowT hZ h))) | (go_at_call 18; refine (CS _ hT _).mono ?_; rintro e w7 ⟨rfl, hb7⟩; clear CS; replace hT := belowT hT hb7) | (go_at_call 19; refine (Wrap_nil _ _).mono ?_; rintro e w7 ⟨rfl, rfl⟩))
  go_ret
  exact ⟨rfl, belowT hb1 (belowT hZ hT)⟩
set_option maxHeartbeats 1000000 in
theorem tell_0_0 (W : World) (hL : Laid W) (op : ByteArray) (hs : decide ((60 : Int) < (op.size : Int)) = false) : Calls Tryd.prog 4 #[.int .i64 0, .int .i64 0, .string op] W fun e w' => e = .returned (.bool true) ∧ Below W.heap.size W w' := by
  have HA := alive_true W hL
  have hLH := Lib.hid hL
  have N1 := fun w => new_zero w
  have N2 := fun w => new_zero w
  have J1 := fun w => Join_nil w op 0
  have hself := Lib.hid (show ((nameOf 0).toList == (nameOf 0).toList) = true from by simp)
  clear hL
  go_enter Tryd.func4, Tryd.ntmps4
  go_wp2_with (first | (go_at_call 8; refine HA.mono ?_; rintro e w1 ⟨rfl, hb1⟩; clear HA) | (go_at_call 10; refine (N1 _).mono ?_; rintro e w2 ⟨rfl, rfl⟩; clear N1) | (go_at_call 11; refine (J1 _).mono ?_; rintro e w2 ⟨rfl, rfl⟩; clear J1))
  obtain ⟨⟨hF, hAS, hJ⟩, hX, hXs⟩ := three w1 (.cells #[.string op, .int .i64 0, .nilIface] 30) (.cells #[.pointer none] 26) (failure op 0 .nilIface)
  have hF := Lib.hid hF
  have hAS := Lib.hid hAS
  have hJ := Lib.hid hJ
  have hXs := Lib.hid hXs
  generalize ((w1.alloc (.cells #[.string op, .int .i64 0, .nilIface] 30)).alloc (.cells #[.pointer none] 26)).alloc (failure op 0 .nilIface) = X at *
  have hL1 := Lib.hid (hLH.out.on hb1)
  have hT := Below.refl X.heap.size X
  have U1 := fun w => unwrap_nil w
  have E1 := fun w => Error_none w
  have I1 := fun w => is_none_nil w
  have I2 := fun w (h : Below X.heap.size X w) => is_some_nil w w1.heap.size
  have I3 := fun w t => is_str w w1.heap.size t
  have HAs := fun w (h : Below X.heap.size X w) => As_fail w (hL1.out.on (belowT hX h)) (w1.heap.size + 1 + 1) (w1.heap.size + 1) _ ((h.block (w1.heap.size + 1) (by rw [hXs.out]; omega)).trans hAS.out)
  go_wp2_with (first | (go_at_call 9; refine (name_any _ 0).mono ?_; rintro e w5 ⟨rfl, hb5⟩; replace hT := belowT hT hb5; clear hb5; have hself2 := hself.out) | (go_at_call 12; refine (code_name _ 0).mono ?_; rintro e w5 ⟨rfl, hb5⟩; replace hT := belowT hT hb5; clear hb5) | (go_at_call 13; refine (E1 _).mono ?_; rintro e w5 ⟨rfl, rfl⟩) | (go_at_call 14; refine (U1 _).mono ?_; rintro e w5 ⟨rfl, rfl⟩) | (go_at_call 15; refine (I1 _).mono ?_; rintro e w5 ⟨rfl, hd⟩; replace hT := below_drawn hT hd; clear hd; clear I1) | (go_at_call 15; refine (I2 _ hT).mono ?_; rintro e w5 ⟨rfl, hd⟩; replace hT := below_drawn hT hd; clear hd; clear I2) | (go_at_call 15; refine (I3 _ _).mono ?_; rintro e w5 ⟨rfl, hd⟩; replace hT := below_drawn hT hd; clear hd; clear I3) | (go_at_call 16; refine (new_str _ _).mono ?_; rintro e w5 ⟨rfl, rfl⟩; replace hT := belowT hT (below_new _ (.cells #[.string ⟨#[120]⟩] 53 (0, 0)))) | (go_at_call 10; refine (N2 _).mono ?_; rintro e w5 ⟨rfl, rfl⟩; clear N2) | (go_at_call 17; refine (HAs _ hT).mono ?_; rintro e w6 ⟨rfl, hh, hcg, hbg, hk⟩; clear HAs; have hZ := (belowT hX hT).trans (hbg.mono (by omega)); obtain ⟨c0, c1, c2⟩ := fcells ((hk.out (w1.heap.size + 1 + 1) (by have := hT.size; rw [hXs.out] at this; omega) (by omega)).trans ((hT.block (w1.heap.size + 1 + 1) (by rw [hXs.out]; omega)).trans hJ.out)); clear hbg hh hk hT; have hT := Below.refl w6.heap.size w6; have CS := fun w (h : Below w6.heap.size w6 w) => Code_str w (hL1.out.on (belowT hZ h))) | (go_at_call 18; refine (CS _ hT _).mono ?_; rintro e w7 ⟨rfl, hb7⟩; clear CS; replace hT := belowT hT hb7) | (go_at_call 19; refine (Wrap_nil _ _).mono ?_; rintro e w7 ⟨rfl, rfl⟩))
  go_ret
  exact ⟨rfl, belowT hb1 (belowT hZ hT)⟩
theorem tell_long (W : World) (hL : Laid W) (c o : Int) (op : ByteArray) (hs : decide ((60 : Int) < (op.size : Int)) = true) : Calls Tryd.prog 4 #[.int .i64 c, .int .i64 o, .string op] W fun e w' => e = .returned (.bool true) ∧ Below W.heap.size W w' := by
  have HA := alive_true W hL
  clear hL
  go_enter Tryd.func4, Tryd.ntmps4
  go_wp2_with ((go_at_call 8; refine HA.mono ?_; rintro e w1 ⟨rfl, hb1⟩; clear HA))
  go_ret
  exact ⟨rfl, hb1⟩
theorem FailTells_all (W : World) (hL : Laid W) (c o : Int) (op : ByteArray) : Calls Tryd.prog 4 #[.int .i64 c, .int .i64 o, .string op] W fun e w' => e = .returned (.bool true) ∧ Below W.heap.size W w' := by
  cases hs : decide ((60 : Int) < (op.size : Int))
  · by_cases hc : c = 0
    · subst hc
      by_cases ho : o = 0
      · subst ho; exact tell_0_0 W hL op hs
      · exact tell_0_o W hL o ho op hs
    · by_cases ho : o = 0
      · subst ho; exact tell_c_0 W hL c hc op hs
      · exact tell_c_o W hL c hc o ho op hs
  · exact tell_long W hL c o op hs
end Go.Proofs.YtogkhpceahdaeaaDoor.Fail
