/- The law FailJoined answers true: the walk. Conditions: that errors.errorType is laid. -/
import Derived.Test.YtogkhpceahdaeaaDoorFailWrap
import Derived.Test.YtogkhpceahdaeaaDoorFailPath
namespace Go.Proofs.YtogkhpceahdaeaaDoor.Fail
open Go.RowKit Go.Extern.Stop Go.Stop Go.Extern Go.Proofs.YtogkhpceahdaeaaDoorW.PrintWords Go.Proofs.YtogkhpceahdaeaaDoorW.PrintLast Go.Proofs.YtogkhpceahdaeaaDoorW.PrintMore
set_option linter.unusedVariables false
set_option linter.unusedSimpArgs false

theorem chain2 (W : World) (op : ByteArray) (a c : Int) : Chain ((W.alloc (failure ⟨#[]⟩ c .nilIface)).alloc (failure op a (err W.heap.size))) ((W.alloc (failure ⟨#[]⟩ c .nilIface)).alloc (failure op a (err W.heap.size))).heap.size (err (W.heap.size + 1)) [(op, a), (⟨#[]⟩, c)] := by
  have h := heap_new (W.alloc (failure ⟨#[]⟩ c .nilIface)) (failure op a (err W.heap.size))
  rw [sizeA W] at h
  refine .node _ _ _ (err W.heap.size) _ (by rw [sizeA (W.alloc _), sizeA W]; omega) h ?_
  exact ((chainN W ⟨#[]⟩ c).under (below_new _ _) (Nat.le_refl _)).up (by rw [sizeA (W.alloc _)]; omega)
theorem empty_app (x : ByteArray) : (⟨#[]⟩ : ByteArray) ++ x = x := ByteArray.empty_append
theorem joined_alive (W : World) (hL : Laid W) (a b : Int) (op : ByteArray) (h : (a == 0) = true ∨ ((a == 0) = false ∧ (b == 0) = true) ∨ ((a == 0) = false ∧ (b == 0) = false ∧ decide ((30 : Int) < (op.size : Int)) = true)) : Calls Tryd.prog 7 #[.int .i64 a, .int .i64 b, .string op] W fun e w' => e = .returned (.bool true) ∧ Below W.heap.size W w' := by
  have HA := alive_true W hL
  clear hL
  rcases h with h1 | ⟨h1, h2⟩ | ⟨h1, h2, h3⟩ <;>
  · go_enter Tryd.func7, Tryd.ntmps7
    go_wp2_with ((go_at_call 8; refine HA.mono ?_; rintro e w1 ⟨rfl, hb1⟩; clear HA))
    go_ret
    exact ⟨rfl, hb1⟩
theorem has2 (op : ByteArray) (a b : Int) (ha : a ≠ 0) (hb : b ≠ 0) : hasB a [(op, a), (⟨#[]⟩, b)] = true ∧ hasB b [(op, a), (⟨#[]⟩, b)] = true ∧ hasB 0 [(op, a), (⟨#[]⟩, b)] = false := by
  simp [hasB, ha, hb]
theorem joined_some (W : World) (hL : Laid W) (a b : Int) (op : ByteArray) (h1 : (a == 0) = false) (h2 : (b == 0) = false) (h3 : decide ((30 : Int) < (op.size : Int)) = false) (z : Bool) (hz : op.toList.isEmpty = z) : Calls Tryd.prog 7 #[.int .i64 a, .int .i64 b, .string op] W fun e w' => e = .returned (.bool true) ∧ Below W.heap.size W w' := by
  have HA := alive_true W hL
  have hLH := Lib.hid hL
  have ha : a ≠ 0 := by simpa using h1
  have hb : b ≠ 0 := by simpa using h2
  have hs : op.size ≤ 30 := by simp only [decide_eq_false_iff_not] at h3; omega
  have hn := name_size b
  have ht := has2 op a b ha hb
  have t1 := Lib.hid ht.1
  have t2 := Lib.hid ht.2.1
  have t3 := Lib.hid ht.2.2
  clear hL ht
  cases z
  · have hz2 : (op.toList == ([] : List UInt8)) = false := by cases h : op.toList <;> simp [h] at hz ⊢
    have hwd := Lib.hid (show wordsOf [(op, a), (⟨#[]⟩, b)] = op ++ ⟨#[58, 32]⟩ ++ nameOf b from by simp [wordsOf, opW, hz, colon, empty_app])
    have hop := Lib.hid (show opsL [(op, a), (⟨#[]⟩, b)] = [op] from by simp [opsL, hz])
    have hs1 : 1 ≤ op.size := by
      rcases Nat.eq_zero_or_pos op.size with h | h
      · have : op = ⟨#[]⟩ := by cases op with | mk d => have : d = #[] := Array.eq_empty_of_size_eq_zero h; rw [this]
        rw [this] at hz; exact absurd hz (by decide +kernel)
      · exact h
    go_enter Tryd.func7, Tryd.ntmps7
    go_wp2_with (first | (go_at_call 8; refine HA.mono ?_; rintro e w1 ⟨rfl, hb1⟩; clear HA) | (go_at_call 10; refine (new_some b hb _).mono ?_; rintro e w2 ⟨rfl, rfl⟩) | (go_at_call 11; refine (Join_err _ _ _ _ _).mono ?_; rintro e w' ⟨rfl, rfl⟩))
    have hch := chain2 w1 op a b
    have hL2 := (hLH.out.on hb1).on (belowT (below_new w1 (failure ⟨#[]⟩ b .nilIface)) (below_new _ (failure op a (err w1.heap.size))))
    have hb1 := Lib.hid (belowT hb1 (belowT (below_new w1 (failure ⟨#[]⟩ b .nilIface)) (below_new _ (failure op a (err w1.heap.size)))))
    generalize ((w1.alloc (failure ⟨#[]⟩ b .nilIface)).alloc (failure op a (err w1.heap.size))) = w2 at *
    generalize w1.heap.size + 1 = k at *
    have hE := fun (w : World) (h : Below w2.heap.size w2 w) => Error_chain _ w w2.heap.size k (by intro x hx; simp at hx; rcases hx with rfl | rfl; exact Nat.le_trans hs (by decide); exact Nat.zero_le _) (by simp) h.size (hch.under h (Nat.le_refl _))
    have hC := fun (w : World) (h : Below w2.heap.size w2 w) => Code_chain w (hL2.on h) w2.heap.size k _ _ _ (hch.under h (Nat.le_refl _))
    have hH := fun (w : World) (h : Below w2.heap.size w2 w) (c : Int) => Has_chain w w2.heap.size h.size c k _ (hch.under h (Nat.le_refl _))
    have hP := fun (w : World) (h : Below w2.heap.size w2 w) => Path_chain w w2.heap.size h.size (err k) _ (by simp) (hch.under h (Nat.le_refl _))
    rw [hop.out] at hP
    have hHa := fun w h => hH w h a
    have hHb := fun w h => hH w h b
    have hH0 := fun w h => hH w h 0
    rw [t1.out] at hHa
    rw [t2.out] at hHb
    rw [t3.out] at hH0
    rw [hwd.out] at hE
    clear hH hch hL2
    have mE := methodError
    go_wp2_with (first | (go_at_call 9; refine (name_any _ b).mono ?_; rintro e w3 ⟨rfl, hb3⟩) | (go_at_call 18; refine (hC _ hb3).mono ?_; rintro e w4 ⟨rfl, hb4⟩; replace hb3 := belowT hb3 hb4; clear hb4 hC) | (go_at_call 21; refine (hHa _ hb3).mono ?_; rintro e w4 ⟨rfl, hb4⟩; replace hb3 := belowT hb3 hb4; clear hb4 hHa) | (go_at_call 21; refine (hHb _ hb3).mono ?_; rintro e w4 ⟨rfl, hb4⟩; replace hb3 := belowT hb3 hb4; clear hb4 hHb) | (go_at_call 13; refine (hE _ hb3).mono ?_; rintro e w4 ⟨rfl, hb4⟩; replace hb3 := belowT hb3 hb4; clear hb4 hE) | (go_at_call 21; refine (hH0 _ hb3).mono ?_; rintro e w4 ⟨rfl, hb4⟩; replace hb3 := belowT hb3 hb4; clear hb4 hH0) | (go_at_call 24; refine (hP _ hb3).mono ?_; rintro e w4 ⟨v, rfl, hv, hb4⟩; replace hb3 := belowT hb3 hb4; clear hb4 hP; obtain ⟨A, cp, rfl⟩ := Kd.R_slice hv; clear hv))
    all_goals (go_ret; exact ⟨rfl, belowT hb1.out hb3⟩)
  · have hz3 : op = ⟨#[]⟩ := by
      rw [ByteArray.toList_eq] at hz
      cases op with
      | mk d => have h2 : d = #[] := by simpa using hz
                rw [h2]
    subst hz3
    have hwd := Lib.hid (show wordsOf [(⟨#[]⟩, a), (⟨#[]⟩, b)] = nameOf b from by simp [wordsOf, opW, empty_app])
    have hop := Lib.hid (show opsL [(⟨#[]⟩, a), (⟨#[]⟩, b)] = [] from by simp [opsL])
    go_enter Tryd.func7, Tryd.ntmps7
    go_wp2_with (first | (go_at_call 8; refine HA.mono ?_; rintro e w1 ⟨rfl, hb1⟩; clear HA) | (go_at_call 10; refine (new_some b hb _).mono ?_; rintro e w2 ⟨rfl, rfl⟩) | (go_at_call 11; refine (Join_err _ _ _ _ _).mono ?_; rintro e w' ⟨rfl, rfl⟩))
    have hch := chain2 w1 ⟨#[]⟩ a b
    have hL2 := (hLH.out.on hb1).on (belowT (below_new w1 (failure ⟨#[]⟩ b .nilIface)) (below_new _ (failure ⟨#[]⟩ a (err w1.heap.size))))
    have hb1 := Lib.hid (belowT hb1 (belowT (below_new w1 (failure ⟨#[]⟩ b .nilIface)) (below_new _ (failure ⟨#[]⟩ a (err w1.heap.size)))))
    generalize ((w1.alloc (failure ⟨#[]⟩ b .nilIface)).alloc (failure ⟨#[]⟩ a (err w1.heap.size))) = w2 at *
    generalize w1.heap.size + 1 = k at *
    have hE := fun (w : World) (h : Below w2.heap.size w2 w) => Error_chain _ w w2.heap.size k (by intro x hx; simp at hx; rcases hx with rfl | rfl; exact Nat.zero_le _; exact Nat.zero_le _) (by simp) h.size (hch.under h (Nat.le_refl _))
    have hC := fun (w : World) (h : Below w2.heap.size w2 w) => Code_chain w (hL2.on h) w2.heap.size k _ _ _ (hch.under h (Nat.le_refl _))
    have hH := fun (w : World) (h : Below w2.heap.size w2 w) (c : Int) => Has_chain w w2.heap.size h.size c k _ (hch.under h (Nat.le_refl _))
    have hP := fun (w : World) (h : Below w2.heap.size w2 w) => Path_chain w w2.heap.size h.size (err k) _ (by simp) (hch.under h (Nat.le_refl _))
    rw [hop.out] at hP
    have hHa := fun w h => hH w h a
    have hHb := fun w h => hH w h b
    have hH0 := fun w h => hH w h 0
    rw [t1.out] at hHa
    rw [t2.out] at hHb
    rw [t3.out] at hH0
    rw [hwd.out] at hE
    clear hH hch hL2
    have mE := methodError
    go_wp2_with (first | (go_at_call 9; refine (name_any _ b).mono ?_; rintro e w3 ⟨rfl, hb3⟩) | (go_at_call 18; refine (hC _ hb3).mono ?_; rintro e w4 ⟨rfl, hb4⟩; replace hb3 := belowT hb3 hb4; clear hb4 hC) | (go_at_call 21; refine (hHa _ hb3).mono ?_; rintro e w4 ⟨rfl, hb4⟩; replace hb3 := belowT hb3 hb4; clear hb4 hHa) | (go_at_call 21; refine (hHb _ hb3).mono ?_; rintro e w4 ⟨rfl, hb4⟩; replace hb3 := belowT hb3 hb4; clear hb4 hHb) | (go_at_call 13; refine (hE _ hb3).mono ?_; rintro e w4 ⟨rfl, hb4⟩; replace hb3 := belowT hb3 hb4; clear hb4 hE) | (go_at_call 21; refine (hH0 _ hb3).mono ?_; rintro e w4 ⟨rfl, hb4⟩; replace hb3 := belowT hb3 hb4; clear hb4 hH0) | (go_at_call 24; refine (hP _ hb3).mono ?_; rintro e w4 ⟨v, rfl, hv, hb4⟩; replace hb3 := belowT hb3 hb4; clear hb4 hP; obtain ⟨A, cp, rfl⟩ := Kd.R_slice hv; clear hv))
    all_goals (go_ret; exact ⟨rfl, belowT hb1.out hb3⟩)
theorem FailJoined_all (W : World) (hL : Laid W) (a b : Int) (op : ByteArray) : Calls Tryd.prog 7 #[.int .i64 a, .int .i64 b, .string op] W fun e w' => e = .returned (.bool true) ∧ Below W.heap.size W w' := by
  cases h1 : (a == 0)
  · cases h2 : (b == 0)
    · cases h3 : decide ((30 : Int) < (op.size : Int))
      · exact joined_some W hL a b op h1 h2 h3 _ rfl
      · exact joined_alive W hL a b op (Or.inr (Or.inr ⟨h1, h2, h3⟩))
    · exact joined_alive W hL a b op (Or.inr (Or.inl ⟨h1, h2⟩))
  · exact joined_alive W hL a b op (Or.inl h1)
end Go.Proofs.YtogkhpceahdaeaaDoor.Fail
