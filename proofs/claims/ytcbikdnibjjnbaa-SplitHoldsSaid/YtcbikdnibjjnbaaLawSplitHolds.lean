-- The row of the law SplitHolds, out of its pure statement and the walk that was printed (written by mklaw.py).
import Derived.Test.YtcbikdnibjjnbaaRows
import Derived.Test.YtcbikdnibjjnbaaStaSplitHolds
import Derived.Test.YtcbikdnibjjnbaaPureSplitHolds
import Derived.WalkKit
import Derived.ProofKit
import Derived.OpenShut
import Derived.ShutString
import Derived.ChangeOld
import Derived.Below
import Derived.SizedLaws
import Derived.Carry
namespace Go.Proofs.Ytcbikdnibjjnbaa.splitHolds
open Go.ChangeShapes Go.WideShapes Go.ChangeAt Go.RowKit
open Go.ChangeMaps (open_string shut_string)
open Go.RowKit Go.Proofs.YtcbikdnibjjnbaaW.PrintWords Go.Proofs.YtcbikdnibjjnbaaW.PrintLast Go.Proofs.YtcbikdnibjjnbaaW.PrintMore Go.Proofs.Ytcbikdnibjjnbaa.Open Go.Proofs.Ytcbikdnibjjnbaa.PSplitHolds Go.Proofs.Ytcbikdnibjjnbaa.StaSplitHolds
set_option linter.unusedVariables false
theorem own : ownKnob Try.prog.godebug = none := by kernel_rfl
theorem laidOut : laidOutB Try.prog = true := by kernel_rfl
set_option maxRecDepth 100000 in
theorem lifted (os : Os) (started : os.Started) (H : Type) (enc : TypeId × Value → H) :
    ReturnsInHanded {} Try.checked os 6 .any (Rows.splitHoldsSpec.pre6 enc Try.prog Try.f6 Rows.splitHoldsRow.domain false) (Rows.splitHoldsSpec.post enc Try.prog Try.f6 false true false false) := by
  refine returnsInHanded_of_change_sized (C := Try.checked) own started (by kernel_rfl) Try.func6
    (ChangeSpec.witness6 (enc := enc) (C := Try.checked) false ⟨#[], #[.agg #[.int .i64 0, .int .i64 0, .int .i64 0, .string ByteArray.empty], .int .i64 0], []⟩ 8 (by kernel_rfl) (by kernel_rfl) (by kernel_rfl) (by kernel_rfl)) ?_
  intro W base args ds gs before hval0 hW hcnd hsz0 _
  have hsz : (DataW.weightsEach Try.prog (Try.f6.params.toList ++ Rows.splitHoldsSpec.plain.varTypes Try.prog) (ds ++ gs)).all (· ≤ reachBytes) = true := hsz0
  have hval : ∀ (j : Nat) t v, Try.f6.params[j]? = some t → args[j]? = some v → Value.okWide Try.prog W .any base t v := hval0
  have hW' := hW
  obtain ⟨p, q, hA0, hV, rfl, hfz, hnd⟩ := hW
  have hA : DataW.TrodAll enc Try.prog W 0 (fun _ => true) true Try.f6.params.toList args.toList ds p := hA0
  rw [Try.params6] at hA hval hsz
  obtain ⟨v0, vs0, d0, ds0, p0, q0, hargs, rfl, rfl, h0, r0⟩ := trodAll_cons hA
  obtain ⟨v1, vs1, d1, ds1, p1, q1, rfl, rfl, rfl, h1, r1⟩ := trodAll_cons r0
  obtain ⟨rfl, rfl, rfl⟩ := trodAll_nil r1
  obtain rfl : args = #[v0, v1] := by cases args; simp_all
  obtain ⟨rfl, rfl⟩ := trodVars_none hV
  have k0 := h0
  have lt0 : ∀ x ∈ p0, x.block < W.heap.size := by obtain ⟨m, hm⟩ := k0; exact DataW.trod_lt m _ _ _ hm
  obtain ⟨cs0, rfl, sz0⟩ := okWide_struct Try.underlying28 (hval 0 28 v0 rfl rfl)
  obtain ⟨a0, hK0, hG0⟩ := opens_arg oArg0 hsz (j := 0) (t := 28) rfl rfl h0
  obtain ⟨cs0⟩ := cs0
  have hK0' : k28.K W a0 cs0 := hK0
  obtain rfl := k28_open hK0'
  obtain ⟨a1, rfl, rfl, rfl, hG1⟩ := open_int Try.underlying3 (hval 1 3 v1 rfl rfl) h1
  clear hA0 hval0 hsz0 hsz
  obtain ⟨k, hk⟩ := Pure.SplitHolds a0 a1 hG0 hG1
  refine (PSplitHolds.bywashlaw8_SplitHolds.calls (w := W) (r := true) (h := hk) ).mono fun e W' ⟨he, bel0⟩ => ?_
  have bel : Below W.heap.size W W' := bel0
  subst he
  exact ⟨_, rfl, _, _, _, [], _, [], hW', trodAll_mk1 (shut_bool Try.underlying4 _), (trodAll_cons_mk (Below.trod laidOut (by kernel_rfl) (of_decide_eq_true (by kernel_rfl)) k0 bel lt0) (trodAll_cons_mk (shut_int Try.underlying3 hG1) trodAll_mk0)), rfl, bel.frame _, fun h => by cases h⟩
theorem over : Rows.splitHoldsRow.holds Try.pinned (OpenSpec.ofChange Rows.splitHoldsSpec) :=
  OpenClaim.holds_of_wide 6 Try.f6 rfl rfl rfl rfl rfl rfl rfl ⟨rfl, rfl, rfl, rfl, rfl⟩ rfl rfl rfl rfl rfl (by kernel_rfl) Try.func6 (by kernel_rfl)
    (of_decide_eq_true (by kernel_rfl)) (by unfold Func.isWrapper; first | (rw [if_pos (by decide +kernel)]; kernel_rfl) | (rw [if_neg (by decide +kernel)]; exact ⟨rfl, rfl⟩))
    (fun os started H enc _ => lifted os started H enc)
theorem proved : Rows.SplitHoldsSaid := over
#print axioms proved
end Go.Proofs.Ytcbikdnibjjnbaa.splitHolds
namespace Go.Proofs.Ytcbikdnibjjnbaa
/-- The row, under a short name, for the claim. -/
theorem splitHolds_holds : Rows.SplitHoldsSaid := splitHolds.proved
end Go.Proofs.Ytcbikdnibjjnbaa
