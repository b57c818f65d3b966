/- The law SplitPieces answers true: the walk. Conditions: none. -/
import Derived.Test.YtndchendimbfnaaSplitClose
namespace Go.Proofs.Ytndchendimbfnaa.Close
open Go.RowKit Go.Proofs.YtndchendimbfnaaW.PrintWords Go.Proofs.YtndchendimbfnaaW.PrintLast Go.Proofs.YtndchendimbfnaaW.PrintMore Go.Proofs.Ytndchendimbfnaa.Aid Go.Proofs.Ytndchendimbfnaa.PSplitPieces Go.Proofs.Ytndchendimbfnaa.Pure
set_option linter.unusedVariables false
set_option linter.unusedSimpArgs false

theorem alive_any (w : World) : Calls Try.prog 19 #[] w fun e w' => e = .returned (.bool true) ∧ Below w.heap.size w w' := by
  obtain ⟨K, hK⟩ := alive_ev
  exact bywashlaw8_alive.calls K true w (hK K (Nat.le_refl _))
theorem put_any (w : World) (x : SF) : Calls Try.prog 20 #[.agg #[.int .i64 x.f0, .int .i64 x.f1, .int .i64 x.f2, .string x.f3]] w fun e w' => e = .returned (.tuple #[.string (put x.f0 x.f1 x.f2 x.f3).1, .bool (put x.f0 x.f1 x.f2 x.f3).2]) ∧ Below w.heap.size w w' := by
  obtain ⟨K, hK⟩ := put3_ev x.f0 x.f1 x.f2 x.f3
  exact bywashref1_FramePut.calls K x.f0 x.f1 x.f2 x.f3 _ _ w (hK K (Nat.le_refl _))
theorem joined_snoc (l : List SF) (x : SF) : joined (l ++ [x]) = joined l ++ putv x.f0 x.f1 x.f2 x.f3 := by
  induction l with
  | nil =>
    show putv x.f0 x.f1 x.f2 x.f3 ++ (⟨#[]⟩ : ByteArray) = (⟨#[]⟩ : ByteArray) ++ putv x.f0 x.f1 x.f2 x.f3
    apply data_inj; simp
  | cons y l ih =>
    show putv y.f0 y.f1 y.f2 y.f3 ++ joined (l ++ [x]) = (putv y.f0 y.f1 y.f2 y.f3 ++ joined l) ++ putv x.f0 x.f1 x.f2 x.f3
    rw [ih]
    apply data_inj; simp
theorem take_rd (l : List SF) (i : Nat) (h : i < l.length) : l.take (i + 1) = l.take i ++ [rdF l (i : Int)] := by
  unfold rdF
  rw [Int.toNat_natCast, List.getD_eq_getElem?_getD, List.getElem?_eq_getElem h, List.take_add_one, List.getElem?_eq_getElem h]
  rfl
theorem joined_size (l : List SF) (h : ∀ x ∈ l, okS 512 x) : (joined l).size ≤ 521 * l.length := by
  induction l with
  | nil => exact Nat.zero_le _
  | cons x l ih =>
    have h1 := (h x (List.mem_cons_self ..)).2
    have h2 := ih fun y hy => h y (List.mem_cons_of_mem _ hy)
    have h3 := putv_size x.f0 x.f1 x.f2 x.f3
    show (putv x.f0 x.f1 x.f2 x.f3 ++ joined l).size ≤ _
    rw [ByteArray.size_append, List.length_cons]
    omega
/-- What a round of the first loop knows. -/
structure Put (W wl : World) (l : List SF) (A : Option Addr) (cp i : Nat) : Prop where
  le : i ≤ l.length
  ok : ∀ x ∈ l.take i, okS 512 x
  below : Below W.heap.size W wl
  box : wl.heap[W.heap.size]? = some (.cells #[.slice A l.length cp] 48 (0, 0))
theorem put_next {W wl w1 : World} {l : List SF} {A : Option Addr} {cp i : Nat} (H : Put W wl l A cp i) (hi : (i : Int) < (l.length : Int)) (hx : okS 512 (rdF l (i : Int))) (hb : Below wl.heap.size wl w1) : Put W w1 l A cp (i + 1) :=
  ⟨by omega, by rw [take_rd l i (by omega)]; intro x h; rcases List.mem_append.1 h with h | h; exact H.ok x h; rw [List.mem_singleton.1 h]; exact hx, H.below.trans (hb.mono H.below.size), (hb.block _ (lt_of_block H.box)).trans H.box⟩

theorem meas (n i : Nat) (hi : (i : Int) < (n : Int)) (hw : wrap64 ((i : Int) + 1) = ((i + 1 : Nat) : Int)) : n - (intOf (.int .i64 (wrap64 ((i : Int) + 1)))).toNat < n - (intOf (.int .i64 (i : Int))).toNat := by
  rw [hw]
  show n - (((i + 1 : Nat) : Int)).toNat < n - ((i : Int)).toNat
  omega
theorem box3 {w w2 : World} {a b c : Value} {x : ByteArray} {t : TypeId} (hb : Below (w.alloc (.cells #[a, b, c, .string x] t)).heap.size (w.alloc (.cells #[a, b, c, .string x] t)) w2) : w2.cell? ⟨w.heap.size, 3, none⟩ = some (.string x) := by
  have h := (hb.block w.heap.size (by simp)).trans (heap_alloc_new w _)
  simp [World.cell?, h]
theorem box_below {w w2 : World} {o : Obj} (hb : Below (w.alloc o).heap.size (w.alloc o) w2) : Below w.heap.size w w2 :=
  ((Below.refl _ _).alloc (Nat.le_refl _) _).trans (hb.mono (by simp))
theorem put_zero (W : World) (l : List SF) (A : Option Addr) (cp : Nat) {w1 : World} (hb : Below (W.alloc (.cells #[.slice A l.length cp] 48)).heap.size (W.alloc (.cells #[.slice A l.length cp] 48)) w1) : Put W w1 l A cp 0 :=
  ⟨Nat.zero_le _, by intro x h; simp at h, ((Below.refl _ _).alloc (Nat.le_refl _) _).trans (hb.mono (by simp)), (hb.block _ (by simp)).trans (heap_alloc_new W _)⟩

/-- What a round of the second loop knows. -/
structure Cut (W wl : World) (bs bk bl g : Nat) (A : Option Addr) (cp : Nat) (l : List SF) (n j k : Nat) (buf rest : ByteArray) : Prop where
  le : j ≤ n
  held : Held W wl bs bk bl g A cp l k buf
  eq : buf ++ rest = joined (l.drop k)
  bsz : buf.size ≤ 20000
  rsz : rest.size ≤ 20000
theorem held_zero {W w : World} {g : Nat} {A : Option Addr} {cp : Nat} {l : List SF} (hI : IsS96 W w g ⟨#[]⟩ 512 false) (hB : Below W.heap.size W w) (hbox : w.heap[W.heap.size]? = some (.cells #[.slice A l.length cp] 48 (0, 0))) :
    Held W ((w.alloc (.cells #[.pointer (some ⟨g, 0, none⟩)] 53)).alloc (.cells #[.int .i64 0] 3)) w.heap.size (w.heap.size + 1) W.heap.size g A cp l 0 ⟨#[]⟩ := by
  have hs := lt_of_block hbox
  have h1 := heap_alloc_new (w.alloc (.cells #[.pointer (some ⟨g, 0, none⟩)] 53)) (.cells #[.int .i64 0] 3)
  rw [show (w.alloc (.cells #[.pointer (some ⟨g, 0, none⟩)] 53)).heap.size = w.heap.size + 1 from by simp] at h1
  exact ⟨(Below.heap_alloc _ _ _ (by simp)).trans (heap_alloc_new w _), h1, (Below.heap_alloc _ _ _ (by simp; omega)).trans ((Below.heap_alloc _ _ _ hs).trans hbox), (hI.alloc _).alloc _, (hB.alloc hB.size _).alloc (by have := hB.size; simp; omega) _, ⟨hB.size, Nat.le_succ_of_le hB.size, Nat.le_refl _⟩, Nat.zero_le _⟩

theorem cut_eq {buf rest J : ByteArray} (h : buf ++ rest = J) (n : Nat) (hn : n ≤ rest.size) : (buf ++ rest.extract 0 n) ++ rest.extract n rest.size = J := by
  rw [← h]
  have := cut_join rest n hn
  rw [ByteArray.append_assoc, this]

theorem cut_size {b r : ByteArray} {l : List SF} {k : Nat} (h : b ++ r = joined (l.drop k)) (hok : ∀ x ∈ l, okS 512 x) (hl : l.length ≤ 30) : b.size ≤ 20000 := by
  have h1 := joined_size (l.drop k) fun x hx => hok x (List.mem_of_mem_drop hx)
  rw [← h, ByteArray.size_append, List.length_drop] at h1
  omega
set_option maxHeartbeats 4000000 in
theorem pieces_walk (W : World) (A0 : Option Addr) (c0 : Nat) (l : List SF) (hr0 : Kd.C kF W A0 l.length l) (hc0 : l.length ≤ c0) (A1 : Option Addr) (c1 : Nat) (cuts : List Int) (hr1 : Kd.C (Kd.int .i64) W A1 cuts.length cuts) (hc1 : cuts.length ≤ c1)
    (h30 : decide ((30 : Int) < (l.length : Int)) = false) (h100 : decide ((100 : Int) < (cuts.length : Int)) = false) :
    Calls Try.prog 5 #[.slice A0 l.length c0, .slice A1 cuts.length c1] W fun e w' => e = .returned (.bool true) ∧ Below W.heap.size W w' := by
  have HC := Aside0.mk hr0
  have HCP := Aside0.mk hc0
  have HD := Aside0.mk hr1
  have HDP := Aside0.mk hc1
  have hL := Aside0.mk (show l.length ≤ 30 by simp only [decide_eq_false_iff_not] at h30; omega)
  have hM := Aside0.mk (show cuts.length ≤ 100 by simp only [decide_eq_false_iff_not] at h100; omega)
  clear hr0 hc0 hr1 hc1
  go_enter Try.func5, Try.ntmps5
  go_wp2_with ((go_at_call 19; refine (alive_any _).mono ?_; rintro e w1 ⟨rfl, hb1⟩; have hP0 := Aside0.mk (put_zero W l A0 c0 hb1); have dl := cell_of_one hP0.out.box))
  go_loopw [5, 31] (fun vS vI wl => ∃ (i : Nat), vI = .int .i64 (i : Int) ∧ vS = .string (joined (l.take i)) ∧ Aside0 (Put W wl l A0 c0 i)) (fun _ vI _ => l.length - (intOf vI).toNat)
  case atStart => exact ⟨0, rfl, rfl, hP0⟩
  case round =>
    obtain ⟨i, rfl, rfl, HP⟩ := hrel
    clear hP0 hb1
    by_cases hi : (i : Int) < (l.length : Int)
    · have hi1 : decide ((i : Int) < (l.length : Int)) = true := decide_eq_true hi
      obtain ⟨ad, eA, a0, a1, a2, a3⟩ := atF HC.out (i : Int) (by omega) hi
      simp only [Int.toNat_natCast] at a0 a1 a2 a3
      have hbl := HP.out.below
      have e0 := (hbl.cell (cell_lt a0)).trans a0
      have e1 := (hbl.cell (cell_lt a1)).trans a1
      have e2 := (hbl.cell (cell_lt a2)).trans a2
      have e3 := (hbl.cell (cell_lt a3)).trans a3
      have hwrap := Aside0.mk (show wrap64 ((i : Int) + 1) = ((i + 1 : Nat) : Int) from by unfold wrap64; have := hL.out; omega)
      have hi := Aside0.mk hi
      subst eA
      clear a0 a1 a2 a3 hbl
      have hnx := fun (w : World) (h : okS 512 (rdF l (i : Int))) (hb : Below wr.heap.size wr w) => put_next HP.out hi.out h hb
      have hsn := Aside0.mk (show joined (l.take (i + 1)) = joined (l.take i) ++ putv (rdF l (i : Int)).f0 (rdF l (i : Int)).f1 (rdF l (i : Int)).f2 (rdF l (i : Int)).f3 from by rw [take_rd l i (by have := hi.out; omega)]; exact joined_snoc _ _)
      have hjs := joined_size (l.take i) HP.out.ok
      rw [List.length_take] at hjs
      have hjs := Aside0.mk (show (joined (l.take i)).size ≤ 20000 from by have := hL.out; omega)
      generalize rdF l (i : Int) = x at *
      have HPut := fun w => put_any w x
      have hps := putv_size x.f0 x.f1 x.f2 x.f3
      by_cases hr : rightB x.f0 x.f1 x.f2 x.f3 = true
      · rw [put_ok _ _ _ _ hr] at HPut
        by_cases hs : (512 : Int) < (x.f3.size : Int)
        · have hs1 : decide ((512 : Int) < (x.f3.size : Int)) = true := decide_eq_true hs
          go_wp2_with ((go_at_call 20; refine (HPut _).mono ?_; rintro e w2 ⟨rfl, hb2⟩; clear HPut; have f3 := box3 hb2))
          go_ret
          exact ⟨rfl, HP.out.below.trans ((box_below hb2).mono HP.out.below.size)⟩
        · have hs1 : decide ((512 : Int) < (x.f3.size : Int)) = false := decide_eq_false hs
          have hj2 := hjs.out
          have hp2 : (putv x.f0 x.f1 x.f2 x.f3).size ≤ 600 := by omega
          go_wp2_with ((go_at_call 20; refine (HPut _).mono ?_; rintro e w2 ⟨rfl, hb2⟩; clear HPut; have f3 := box3 hb2; have hn2 := Aside0.mk (hnx _ ⟨hr, by omega⟩ (box_below hb2))))
          go_roundw
          case rel => exact ⟨i + 1, congrArg _ hwrap.out, congrArg _ hsn.out.symm, hn2⟩
          case measure => exact meas _ i hi.out hwrap.out
      · rw [put_no _ _ _ _ hr] at HPut
        go_wp2_with ((go_at_call 20; refine (HPut _).mono ?_; rintro e w2 ⟨rfl, hb2⟩; clear HPut))
        go_ret
        exact ⟨rfl, HP.out.below.trans ((box_below hb2).mono HP.out.below.size)⟩
    · have hi1 : decide ((i : Int) < (l.length : Int)) = false := decide_eq_false hi
      have hle := HP.out.le
      obtain rfl : i = l.length := by omega
      have hok := HP.out.ok
      rw [List.take_length] at hok ⊢
      have hjs := joined_size l hok
      have hjs := Aside0.mk (show (joined l).size ≤ 20000 from by have := hL.out; omega)
      have hok := Aside0.mk hok
      have HNew := split_New.calls 512 _ _ _ W wr HP.out.below (new_run 512 (by decide) (by decide))
      clear hle hi hi1
      go_wp2_with ((go_at_call 21; refine HNew.mono ?_; rintro e w3 ⟨g, rfl, hI3, hB3, hb3⟩; clear HNew; have hH0 := Aside0.mk (held_zero (cp := c0) hI3 hB3 ((hb3.block _ (lt_of_block HP.out.box)).trans HP.out.box)); clear hI3 hB3 hb3))
      go_loopw [5, 58] (fun vS vI wl => ∃ (j k : Nat) (buf rest : ByteArray), vI = .int .i64 (j : Int) ∧ vS = .string rest ∧ Aside0 (Cut W wl w3.heap.size (w3.heap.size + 1) W.heap.size g A0 c0 l cuts.length j k buf rest)) (fun _ vI _ => cuts.length - (intOf vI).toNat)
      case atStart => exact ⟨0, 0, ⟨#[]⟩, joined l, rfl, rfl, ⟨⟨Nat.zero_le _, hH0.out, by rw [List.drop_zero]; exact ByteArray.empty_append, Nat.zero_le _, hjs.out⟩⟩⟩
      case round =>
        obtain ⟨j, k, buf, rest, rfl, rfl, HQ⟩ := hrel
        clear hH0 HP
        have d1 := cell_of_one HQ.out.held.hs
        have d2 := cell_of_one HQ.out.held.hk
        have d3 := cell_of_one HQ.out.held.hl
        have hrs := HQ.out.rsz
        by_cases hj : (j : Int) < (cuts.length : Int)
        · have hj1 : decide ((j : Int) < (cuts.length : Int)) = true := decide_eq_true hj
          obtain ⟨ad, eA, a0⟩ := Kd.at_int HD.out (j : Int) (by omega) hj
          simp only [Int.toNat_natCast] at a0
          subst eA
          have e0 := (HQ.out.held.below.cell (cell_lt a0)).trans a0
          generalize rd cuts (j : Int) = c at *
          have hj := Aside0.mk hj
          clear a0
          have hns := HQ.out.held.st.ne_blk HQ.out.held.hs (by decide)
          have hnk := HQ.out.held.st.ne_blk HQ.out.held.hk (by decide)
          have hnl := HQ.out.held.st.ne_blk HQ.out.held.hl (by decide)
          have HF := fun (w : World) (h : Held W w w3.heap.size (w3.heap.size + 1) W.heap.size g A0 c0 l k buf) (a : ByteArray) (ha : a.size ≤ 20000) => split_Splitter_Feed.calls g buf 512 false a _ _ _ _ W w h.st h.below (feed_run buf 512 a (by have := HQ.out.bsz; omega))
          have hwj := Aside0.mk (show wrap64 ((j : Int) + 1) = ((j + 1 : Nat) : Int) from by unfold wrap64; have h1 := hj.out; have h2 := hM.out; omega)
          by_cases hc : c < 0
          · skip
            have HJ := Aside0.mk (show (buf ++ ByteArray.empty) ++ rest = joined (l.drop k) from by rw [ByteArray.append_empty]; exact HQ.out.eq)
            have hA := Aside0.mk (show (ByteArray.empty).size ≤ 20000 from Nat.zero_le _)
            have hR := Aside0.mk (show (rest).size ≤ 20000 from HQ.out.rsz)
            have hBA := Aside0.mk (show (buf ++ ByteArray.empty).size ≤ 40000 from by rw [ByteArray.size_append]; have h1 := HQ.out.bsz; have h2 := hA.out; omega)
            go_wp2
            go_region_with ((go_at_call 24; refine (HF _ ?hw (ByteArray.empty) ?ha).mono ?_; (case hw => first | exact HQ.out.held | exact held_drew HQ.out.held _ | exact held_drew HQ.out.held 1); (case ha => exact hA.out); rintro e w4 ⟨rfl, hI4, hB4, hk4⟩; have hH4 := Aside0.mk (held_next (by first | exact HQ.out.held | exact held_drew HQ.out.held 1 | exact held_drew HQ.out.held _) hns hnk hnl hI4 hB4 hk4); clear hI4 hB4 hk4))
            all_goals (
              have HK := close_any W w3.heap.size (w3.heap.size + 1) W.heap.size g A0 c0 l HC.out HCP.out hL.out hok.out w4 k _ (rest) hH4.out HJ.out (Nat.le_trans hBA.out (by decide))
              go_wp2_with ((go_at_call 22; refine HK.mono ?_; rintro e w5 ⟨rfl, k5, b5, hH5, hJ5, hZ5, _⟩; clear HK))
              exact ⟨⟨j + 1, k5, b5, rest, congrArg _ hwj.out, rfl, ⟨⟨by have := hj.out; omega, hH5, hJ5, cut_size hJ5 hok.out hL.out, hR.out⟩⟩⟩, meas _ j hj.out hwj.out⟩)
          · by_cases hz : c = 0
            · subst hz
              have HJ := Aside0.mk (show (buf ++ ByteArray.empty) ++ rest = joined (l.drop k) from by rw [ByteArray.append_empty]; exact HQ.out.eq)
              have hA := Aside0.mk (show (ByteArray.empty).size ≤ 20000 from Nat.zero_le _)
              have hR := Aside0.mk (show (rest).size ≤ 20000 from HQ.out.rsz)
              have hBA := Aside0.mk (show (buf ++ ByteArray.empty).size ≤ 40000 from by rw [ByteArray.size_append]; have h1 := HQ.out.bsz; have h2 := hA.out; omega)
              go_wp2
              go_region_with ((go_at_call 24; refine (HF _ ?hw (ByteArray.empty) ?ha).mono ?_; (case hw => first | exact HQ.out.held | exact held_drew HQ.out.held _ | exact held_drew HQ.out.held 1); (case ha => exact hA.out); rintro e w4 ⟨rfl, hI4, hB4, hk4⟩; have hH4 := Aside0.mk (held_next (by first | exact HQ.out.held | exact held_drew HQ.out.held 1 | exact held_drew HQ.out.held _) hns hnk hnl hI4 hB4 hk4); clear hI4 hB4 hk4))
              all_goals (
                have HK := close_any W w3.heap.size (w3.heap.size + 1) W.heap.size g A0 c0 l HC.out HCP.out hL.out hok.out w4 k _ (rest) hH4.out HJ.out (Nat.le_trans hBA.out (by decide))
                go_wp2_with ((go_at_call 22; refine HK.mono ?_; rintro e w5 ⟨rfl, k5, b5, hH5, hJ5, hZ5, _⟩; clear HK))
                exact ⟨⟨j + 1, k5, b5, rest, congrArg _ hwj.out, rfl, ⟨⟨by have := hj.out; omega, hH5, hJ5, cut_size hJ5 hok.out hL.out, hR.out⟩⟩⟩, meas _ j hj.out hwj.out⟩)
            · by_cases hg : c ≤ (rest.size : Int)
              · skip
                have HJ := Aside0.mk (show (buf ++ rest.extract 0 (c.toNat)) ++ rest.extract (c.toNat) rest.size = joined (l.drop k) from cut_eq HQ.out.eq (c.toNat) (by omega))
                have hA := Aside0.mk (show (rest.extract 0 (c.toNat)).size ≤ 20000 from by rw [ByteArray.size_extract]; have := HQ.out.rsz; omega)
                have hR := Aside0.mk (show (rest.extract (c.toNat) rest.size).size ≤ 20000 from by rw [ByteArray.size_extract]; have := HQ.out.rsz; omega)
                have hBA := Aside0.mk (show (buf ++ rest.extract 0 (c.toNat)).size ≤ 40000 from by rw [ByteArray.size_append]; have h1 := HQ.out.bsz; have h2 := hA.out; omega)
                go_wp2
                go_region_with ((go_at_call 24; refine (HF _ ?hw (rest.extract 0 (c.toNat)) ?ha).mono ?_; (case hw => first | exact HQ.out.held | exact held_drew HQ.out.held _ | exact held_drew HQ.out.held 1); (case ha => exact hA.out); rintro e w4 ⟨rfl, hI4, hB4, hk4⟩; have hH4 := Aside0.mk (held_next (by first | exact HQ.out.held | exact held_drew HQ.out.held 1 | exact held_drew HQ.out.held _) hns hnk hnl hI4 hB4 hk4); clear hI4 hB4 hk4))
                all_goals (
                  have HK := close_any W w3.heap.size (w3.heap.size + 1) W.heap.size g A0 c0 l HC.out HCP.out hL.out hok.out w4 k _ (rest.extract (c.toNat) rest.size) hH4.out HJ.out (Nat.le_trans hBA.out (by decide))
                  go_wp2_with ((go_at_call 22; refine HK.mono ?_; rintro e w5 ⟨rfl, k5, b5, hH5, hJ5, hZ5, _⟩; clear HK))
                  exact ⟨⟨j + 1, k5, b5, rest.extract (c.toNat) rest.size, congrArg _ hwj.out, rfl, ⟨⟨by have := hj.out; omega, hH5, hJ5, cut_size hJ5 hok.out hL.out, hR.out⟩⟩⟩, meas _ j hj.out hwj.out⟩)
              · skip
                have HJ := Aside0.mk (show (buf ++ rest) ++ ByteArray.empty = joined (l.drop k) from by rw [ByteArray.append_empty]; exact HQ.out.eq)
                have hA := Aside0.mk (show (rest).size ≤ 20000 from HQ.out.rsz)
                have hR := Aside0.mk (show (ByteArray.empty).size ≤ 20000 from Nat.zero_le _)
                have hBA := Aside0.mk (show (buf ++ rest).size ≤ 40000 from by rw [ByteArray.size_append]; have h1 := HQ.out.bsz; have h2 := hA.out; omega)
                go_wp2
                go_region_with ((go_at_call 24; refine (HF _ ?hw (rest) ?ha).mono ?_; (case hw => first | exact HQ.out.held | exact held_drew HQ.out.held _ | exact held_drew HQ.out.held 1); (case ha => exact hA.out); rintro e w4 ⟨rfl, hI4, hB4, hk4⟩; have hH4 := Aside0.mk (held_next (by first | exact HQ.out.held | exact held_drew HQ.out.held 1 | exact held_drew HQ.out.held _) hns hnk hnl hI4 hB4 hk4); clear hI4 hB4 hk4))
                all_goals (
                  have HK := close_any W w3.heap.size (w3.heap.size + 1) W.heap.size g A0 c0 l HC.out HCP.out hL.out hok.out w4 k _ (ByteArray.empty) hH4.out HJ.out (Nat.le_trans hBA.out (by decide))
                  go_wp2_with ((go_at_call 22; refine HK.mono ?_; rintro e w5 ⟨rfl, k5, b5, hH5, hJ5, hZ5, _⟩; clear HK))
                  exact ⟨⟨j + 1, k5, b5, ByteArray.empty, congrArg _ hwj.out, rfl, ⟨⟨by have := hj.out; omega, hH5, hJ5, cut_size hJ5 hok.out hL.out, hR.out⟩⟩⟩, meas _ j hj.out hwj.out⟩)
        · have hj1 : decide ((j : Int) < (cuts.length : Int)) = false := decide_eq_false hj
          have hns := HQ.out.held.st.ne_blk HQ.out.held.hs (by decide)
          have hnk := HQ.out.held.st.ne_blk HQ.out.held.hk (by decide)
          have hnl := HQ.out.held.st.ne_blk HQ.out.held.hl (by decide)
          have HF := split_Splitter_Feed.calls g buf 512 false rest _ _ _ _ W wr HQ.out.held.st HQ.out.held.below (feed_run buf 512 rest (by have h1 := HQ.out.bsz; have h2 := HQ.out.rsz; omega))
          have HJ := Aside0.mk (show (buf ++ rest) ++ (⟨#[]⟩ : ByteArray) = joined (l.drop k) from by rw [show (⟨#[]⟩ : ByteArray) = ByteArray.empty from rfl, ByteArray.append_empty]; exact HQ.out.eq)
          have hBA := Aside0.mk (show (buf ++ rest).size ≤ 40000 from by rw [ByteArray.size_append]; have h1 := HQ.out.bsz; have h2 := HQ.out.rsz; omega)
          obtain rfl : j = cuts.length := by have := HQ.out.le; omega
          clear hj hj1 hrs h30 h100
          go_wp2_with (first | (go_at_call 24; refine HF.mono ?_; rintro e w4 ⟨rfl, hI4, hB4, hk4⟩; clear HF; have hH4 := Aside0.mk (held_next HQ.out.held hns hnk hnl hI4 hB4 hk4); clear hI4 hB4 hk4; have HK := close_any W w3.heap.size (w3.heap.size + 1) W.heap.size g A0 c0 l HC.out HCP.out hL.out hok.out w4 k _ (⟨#[]⟩ : ByteArray) hH4.out HJ.out (Nat.le_trans hBA.out (by decide))) | (go_at_call 22; refine HK.mono ?_; rintro e w5 ⟨rfl, k5, b5, hH5, hJ5, hZ5, hend⟩; clear HK; obtain ⟨rfl, rfl⟩ := hend (by simp); have e1 := cell_of_one hH5.hs; have e2 := cell_of_one hH5.hk; have e3 := cell_of_one hH5.hl; have HH := split_Splitter_Held.calls g ⟨#[]⟩ 512 false _ _ _ _ W w5 hH5.st hH5.below rfl; have hH5 := Aside0.mk hH5; clear hJ5 hZ5) | (go_at_call 25; refine HH.mono ?_; rintro e w6 ⟨rfl, hI6, hB6, hk6⟩; clear HH))
          go_ret
          exact ⟨rfl, hB6⟩
theorem pieces_alive (W : World) (A0 : Option Addr) (c0 n : Nat) (A1 : Option Addr) (c1 m : Nat) (h : decide ((30 : Int) < (n : Int)) = true ∨ (decide ((30 : Int) < (n : Int)) = false ∧ decide ((100 : Int) < (m : Int)) = true)) :
    Calls Try.prog 5 #[.slice A0 n c0, .slice A1 m c1] W fun e w' => e = .returned (.bool true) ∧ Below W.heap.size W w' := by
  rcases h with h1 | ⟨h1, h2⟩ <;>
  · go_enter Try.func5, Try.ntmps5
    go_wp2_with ((go_at_call 19; refine (alive_any _).mono ?_; rintro e w1 ⟨rfl, hb1⟩))
    go_ret
    exact ⟨rfl, box_below hb1⟩
theorem SplitPieces_all (W : World) (A0 : Option Addr) (c0 : Nat) (l : List SF) (hr0 : Kd.C kF W A0 l.length l) (hc0 : l.length ≤ c0) (A1 : Option Addr) (c1 : Nat) (cuts : List Int) (hr1 : Kd.C (Kd.int .i64) W A1 cuts.length cuts) (hc1 : cuts.length ≤ c1) :
    Calls Try.prog 5 #[.slice A0 l.length c0, .slice A1 cuts.length c1] W fun e w' => e = .returned (.bool true) ∧ Below W.heap.size W w' := by
  cases h1 : decide ((30 : Int) < (l.length : Int))
  · cases h2 : decide ((100 : Int) < (cuts.length : Int))
    · exact pieces_walk W A0 c0 l hr0 hc0 A1 c1 cuts hr1 hc1 h1 h2
    · exact pieces_alive W A0 c0 _ A1 c1 _ (Or.inr ⟨h1, h2⟩)
  · exact pieces_alive W A0 c0 _ A1 c1 _ (Or.inl h1)
end Go.Proofs.Ytndchendimbfnaa.Close
