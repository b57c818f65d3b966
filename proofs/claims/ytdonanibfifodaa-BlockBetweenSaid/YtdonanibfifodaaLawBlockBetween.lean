-- The row of the law BlockBetween, out of its pure statement and the walk that was printed (written by mklaw.py).
import Derived.Test.YtdonanibfifodaaRows
import Derived.Test.YtdonanibfifodaaStaBlockBetween
import Derived.Test.YtdonanibfifodaaPureBlockBetween
import Derived.WalkKit
import Derived.ProofKit
import Derived.OpenShut
import Derived.ShutString
import Derived.ChangeOld
import Derived.Below
import Derived.SizedLaws
import Derived.Carry
namespace Go.Proofs.Ytdonanibfifodaa.blockBetween
open Go.ChangeShapes Go.WideShapes Go.ChangeAt Go.RowKit
open Go.ChangeMaps (open_string shut_string)
open Go.RowKit Go.Proofs.YtdonanibfifodaaW.PrintWords Go.Proofs.YtdonanibfifodaaW.PrintLast Go.Proofs.YtdonanibfifodaaW.PrintMore Go.Proofs.Ytdonanibfifodaa.Open Go.Proofs.Ytdonanibfifodaa.PBlockBetween Go.Proofs.Ytdonanibfifodaa.StaBlockBetween
set_option linter.unusedVariables false
theorem own : ownKnob Try.prog.godebug = none := by kernel_rfl
theorem laidOut : laidOutB Try.prog = true := by kernel_rfl
set_option maxRecDepth 100000 in
theorem lifted (os : Os) (started : os.Started) (H : Type) (enc : TypeId × Value → H) :
    ReturnsInHanded {} Try.checked os 6 .any (Rows.blockBetweenSpec.pre6 enc Try.prog Try.f6 Rows.blockBetweenRow.domain false) (Rows.blockBetweenSpec.post enc Try.prog Try.f6 false true false false) := by
  refine returnsInHanded_of_change_sized (C := Try.checked) own started (by kernel_rfl) Try.func6
    (ChangeSpec.witness6 (enc := enc) (C := Try.checked) false ⟨#[], #[.string ByteArray.empty, .agg #[.int .i64 0, .int .i64 0, .int .i64 0, .string ByteArray.empty], .int .i64 0], []⟩ 8 (by kernel_rfl) (by kernel_rfl) (by kernel_rfl) (by kernel_rfl)) ?_
  intro W base args ds gs before hval0 hW hcnd hsz0 _
  have hsz : (DataW.weightsEach Try.prog (Try.f6.params.toList ++ Rows.blockBetweenSpec.plain.varTypes Try.prog) (ds ++ gs)).all (· ≤ reachBytes) = true := hsz0
  have hval : ∀ (j : Nat) t v, Try.f6.params[j]? = some t → args[j]? = some v → Value.okWide Try.prog W .any base t v := hval0
  have hW' := hW
  obtain ⟨p, q, hA0, hV, rfl, hfz, hnd⟩ := hW
  have hA : DataW.TrodAll enc Try.prog W 0 (fun _ => true) true Try.f6.params.toList args.toList ds p := hA0
  rw [Try.params6] at hA hval hsz
  obtain ⟨v0, vs0, d0, ds0, p0, q0, hargs, rfl, rfl, h0, r0⟩ := trodAll_cons hA
  obtain ⟨v1, vs1, d1, ds1, p1, q1, rfl, rfl, rfl, h1, r1⟩ := trodAll_cons r0
  obtain ⟨v2, vs2, d2, ds2, p2, q2, rfl, rfl, rfl, h2, r2⟩ := trodAll_cons r1
  obtain ⟨rfl, rfl, rfl⟩ := trodAll_nil r2
  obtain rfl : args = #[v0, v1, v2] := by cases args; simp_all
  obtain ⟨rfl, rfl⟩ := trodVars_none hV
  obtain ⟨a0, rfl, rfl, rfl, y0⟩ := open_string Try.underlying9 (hval 0 9 v0 rfl rfl) h0
  have hG0 : a0.size ≤ 140737488351232 := by
    have z := sized_string hsz (j := 0) (t := 9) rfl rfl
    rw [Array.length_toList] at z
    exact z
  have k1 := h1
  have lt1 : ∀ x ∈ p1, x.block < W.heap.size := by obtain ⟨m, hm⟩ := k1; exact DataW.trod_lt m _ _ _ hm
  obtain ⟨cs1, rfl, sz1⟩ := okWide_struct Try.underlying39 (hval 1 39 v1 rfl rfl)
  obtain ⟨a1, hK1, hG1⟩ := opens_arg oArg1 hsz (j := 1) (t := 39) rfl rfl h1
  obtain ⟨cs1⟩ := cs1
  have hK1' : k39.K W a1 cs1 := hK1
  obtain rfl := k39_open hK1'
  obtain ⟨a2, rfl, rfl, rfl, hG2⟩ := open_int Try.underlying3 (hval 2 3 v2 rfl rfl) h2
  clear hA0 hval0 hsz0 hsz
  obtain ⟨k, hk⟩ := Pure.BlockBetween a0 a1 a2 hG0 hG1 hG2
  refine (PBlockBetween.bywashlaw11_BlockBetween.calls (w := W) (r := true) (h := hk) ).mono fun e W' ⟨he, bel0⟩ => ?_
  have bel : Below W.heap.size W W' := bel0
  subst he
  exact ⟨_, rfl, _, _, _, [], _, [], hW', trodAll_mk1 (shut_bool Try.underlying4 _), (trodAll_cons_mk (shut_string Try.underlying9 y0) (trodAll_cons_mk (Below.trod laidOut (by kernel_rfl) (of_decide_eq_true (by kernel_rfl)) k1 bel lt1) (trodAll_cons_mk (shut_int Try.underlying3 hG2) trodAll_mk0))), rfl, bel.frame _, fun h => by cases h⟩
theorem over : Rows.blockBetweenRow.holds Try.pinned (OpenSpec.ofChange Rows.blockBetweenSpec) :=
  OpenClaim.holds_of_wide 6 Try.f6 rfl rfl rfl rfl rfl rfl rfl ⟨rfl, rfl, rfl, rfl, rfl⟩ rfl rfl rfl rfl rfl (by kernel_rfl) Try.func6 (by kernel_rfl)
    (of_decide_eq_true (by kernel_rfl)) (by unfold Func.isWrapper; first | (rw [if_pos (by decide +kernel)]; kernel_rfl) | (rw [if_neg (by decide +kernel)]; exact ⟨rfl, rfl⟩))
    (fun os started H enc _ => lifted os started H enc)
theorem proved : Rows.BlockBetweenSaid := over
#print axioms proved
end Go.Proofs.Ytdonanibfifodaa.blockBetween
namespace Go.Proofs.Ytdonanibfifodaa
/-- The row, under a short name, for the claim. -/
theorem blockBetween_holds : Rows.BlockBetweenSaid := blockBetween.proved
end Go.Proofs.Ytdonanibfifodaa
