-- The row of the law SplitPieces, out of its walk (written by mkhand.py).
import Derived.Test.YtndchendimbfnaaRows
import Derived.Test.YtndchendimbfnaaSplitLaw
import Derived.WalkKit
import Derived.ProofKit
import Derived.OpenShut
import Derived.ShutString
import Derived.ChangeOld
import Derived.Below
import Derived.SizedLaws
import Derived.Carry
import Derived.Test.YtndchendimbfnaaOpen
import Derived.Test.YtndchendimbfnaaWMore
namespace Go.Proofs.Ytndchendimbfnaa.splitPieces
open Go.ChangeShapes Go.WideShapes Go.ChangeAt Go.RowKit
open Go.ChangeMaps (open_string shut_string)
set_option linter.unusedVariables false
open Go.Proofs.YtndchendimbfnaaW.PrintWords Go.Proofs.YtndchendimbfnaaW.PrintLast Go.Proofs.YtndchendimbfnaaW.PrintMore Go.Proofs.Ytndchendimbfnaa.Open Go.Proofs.Ytndchendimbfnaa.Close
theorem laidOut : laidOutB Try.prog = true := by kernel_rfl
def GF (x : SF) : Prop := (Lit.int .i64 x.f0).wf = true ∧ (Lit.int .i64 x.f1).wf = true ∧ (Lit.int .i64 x.f2).wf = true ∧ x.f3.size ≤ 140737488351232
instance : Inhabited SF := ⟨zF⟩
theorem oF : Opens Try.prog 50 kF GF := opens_struct (fun x : SF => (x.f0, x.f1, x.f2, x.f3)) (fun p => ⟨p.1, p.2.1, p.2.2.1, p.2.2.2⟩) (fun _ => rfl) Try.underlying50 (by kernel_rfl) (opensFs_cons rfl (by kernel_rfl) rfl (opens_int Try.underlying3) (opensFs_cons rfl (by kernel_rfl) rfl (opens_int Try.underlying3) (opensFs_cons rfl (by kernel_rfl) rfl (opens_int Try.underlying3) (opensFs_one rfl (by kernel_rfl) (opens_string Try.underlying9)))))
theorem oArg0 : Opens Try.prog 48 (Kd.slice 50 kF) (fun v => v.length ≤ maxLen ∧ v.length * 40 ≤ 140737488351232 ∧ ∀ x ∈ v, GF x) := (opens_slice 50 Try.underlying48 (by kernel_rfl) (by kernel_rfl) oF)
theorem oArg1 : Opens Try.prog 38 (Kd.slice 3 (Kd.int .i64)) (fun v => v.length ≤ maxLen ∧ v.length * 8 ≤ 140737488351232 ∧ ∀ x ∈ v, (Lit.int .i64 x).wf = true) := (opens_slice 3 Try.underlying38 (by kernel_rfl) (by kernel_rfl) (opens_int Try.underlying3))
theorem own : ownKnob Try.prog.godebug = none := by kernel_rfl
set_option maxRecDepth 100000 in
theorem lifted (os : Os) (started : os.Started) (H : Type) (enc : TypeId × Value → H) :
    ReturnsInHanded {} Try.checked os 5 .any (Rows.splitPiecesSpec.pre6 enc Try.prog Try.f5 Rows.splitPiecesRow.domain false) (Rows.splitPiecesSpec.post enc Try.prog Try.f5 false true false false) := by
  refine returnsInHanded_of_change_sized (C := Try.checked) own started (by kernel_rfl) Try.func5
    (ChangeSpec.witness6 (enc := enc) (C := Try.checked) false ⟨#[], #[.slice none 0 0, .slice none 0 0], []⟩ 8 (by kernel_rfl) (by kernel_rfl) (by kernel_rfl) (by kernel_rfl)) ?_
  intro W base args ds gs before hval0 hW hcnd hsz0 _
  have hsz : (DataW.weightsEach Try.prog (Try.f5.params.toList ++ Rows.splitPiecesSpec.plain.varTypes Try.prog) (ds ++ gs)).all (· ≤ reachBytes) = true := hsz0
  have hval : ∀ (j : Nat) t v, Try.f5.params[j]? = some t → args[j]? = some v → Value.okWide Try.prog W .any base t v := hval0
  have hW' := hW
  obtain ⟨p, q, hA0, hV, rfl, hfz, hnd⟩ := hW
  have hA : DataW.TrodAll enc Try.prog W 0 (fun _ => true) true Try.f5.params.toList args.toList ds p := hA0
  rw [Try.params5] at hA hval hsz
  obtain ⟨v0, vs0, d0, ds0, p0, q0, hargs, rfl, rfl, h0, r0⟩ := trodAll_cons hA
  obtain ⟨v1, vs1, d1, ds1, p1, q1, rfl, rfl, rfl, h1, r1⟩ := trodAll_cons r0
  obtain ⟨rfl, rfl, rfl⟩ := trodAll_nil r1
  obtain rfl : args = #[v0, v1] := by cases args; simp_all
  obtain ⟨rfl, rfl⟩ := trodVars_none hV
  have k0 := h0
  have lt0 : ∀ x ∈ p0, x.block < W.heap.size := by obtain ⟨m, hm⟩ := k0; exact DataW.trod_lt m _ _ _ hm
  obtain ⟨A0, c0, l0, rfl, hc0, hr0, hG0⟩ := opens_arg_slice oArg0 Try.underlying48 (hval 0 48 v0 rfl rfl) hsz (j := 0) (t := 48) rfl rfl h0
  have k1 := h1
  have lt1 : ∀ x ∈ p1, x.block < W.heap.size := by obtain ⟨m, hm⟩ := k1; exact DataW.trod_lt m _ _ _ hm
  obtain ⟨A1, c1, l1, rfl, hc1, hr1, hG1⟩ := opens_arg_slice oArg1 Try.underlying38 (hval 1 38 v1 rfl rfl) hsz (j := 1) (t := 38) rfl rfl h1
  clear hA0 hval0 hsz0 hsz
  refine ((fun W A0 c0 l0 hr0 hc0 A1 c1 l1 hr1 hc1 => Close.SplitPieces_all W A0 c0 l0 hr0 hc0 A1 c1 l1 hr1 hc1) W A0 c0 l0 hr0 hc0 A1 c1 l1 hr1 hc1).mono fun e W' ⟨he, bel⟩ => ?_
  subst he
  exact ⟨_, rfl, _, _, _, [], _, [], hW', trodAll_mk1 (shut_bool Try.underlying4 _), (trodAll_cons_mk (Below.trod laidOut (by kernel_rfl) (of_decide_eq_true (by kernel_rfl)) k0 bel lt0) (trodAll_cons_mk (Below.trod laidOut (by kernel_rfl) (of_decide_eq_true (by kernel_rfl)) k1 bel lt1) trodAll_mk0)), rfl, bel.frame _, fun h => by cases h⟩
theorem over : Rows.splitPiecesRow.holds Try.pinned (OpenSpec.ofChange Rows.splitPiecesSpec) :=
  OpenClaim.holds_of_wide 5 Try.f5 rfl rfl rfl rfl rfl rfl rfl ⟨rfl, rfl, rfl, rfl, rfl⟩ rfl rfl rfl rfl rfl (by kernel_rfl) Try.func5 (by kernel_rfl)
    (of_decide_eq_true (by kernel_rfl)) (by unfold Func.isWrapper; first | (rw [if_pos (by decide +kernel)]; kernel_rfl) | (rw [if_neg (by decide +kernel)]; exact ⟨rfl, rfl⟩))
    (fun os started H enc _ => lifted os started H enc)
theorem proved : Rows.SplitPiecesSaid := over
#print axioms proved
end Go.Proofs.Ytndchendimbfnaa.splitPieces
namespace Go.Proofs.Ytndchendimbfnaa
/-- The row, under a short name, for the claim. -/
theorem splitPieces_holds : Rows.SplitPiecesSaid := splitPieces.proved
end Go.Proofs.Ytndchendimbfnaa
