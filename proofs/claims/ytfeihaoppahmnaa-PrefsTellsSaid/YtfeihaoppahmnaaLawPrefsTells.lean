-- The row of the law PrefsTells, out of its walk (written by mkhand.py).
import Derived.Test.YtfeihaoppahmnaaRows
import Derived.Test.YtfeihaoppahmnaaPrefLaw
import Derived.WalkKit
import Derived.ProofKit
import Derived.OpenShut
import Derived.ShutString
import Derived.ChangeOld
import Derived.Below
import Derived.SizedLaws
import Derived.Carry
import Derived.Test.YtfeihaoppahmnaaOpen
import Derived.Test.YtfeihaoppahmnaaWMore
namespace Go.Proofs.Ytfeihaoppahmnaa.prefsTells
open Go.ChangeShapes Go.WideShapes Go.ChangeAt Go.RowKit
open Go.ChangeMaps (open_string shut_string)
set_option linter.unusedVariables false
open Go.Proofs.YtfeihaoppahmnaaW.PrintWords Go.Proofs.YtfeihaoppahmnaaW.PrintLast Go.Proofs.YtfeihaoppahmnaaW.PrintMore Go.Proofs.Ytfeihaoppahmnaa.Open Go.Proofs.Ytfeihaoppahmnaa.Close
theorem laidOut : laidOutB Try.prog = true := by kernel_rfl
def GF (x : SF) : Prop := (Lit.int .i64 x.f0).wf = true ∧ (Lit.int .i64 x.f1).wf = true
instance : Inhabited SF := ⟨zF⟩
theorem oF : Opens Try.prog 48 kF GF := opens_struct (fun x : SF => (x.f0, x.f1)) (fun p => ⟨p.1, p.2⟩) (fun _ => rfl) Try.underlying48 (by kernel_rfl) (opensFs_cons rfl (by kernel_rfl) rfl (opens_int Try.underlying3) (opensFs_one rfl (by kernel_rfl) (opens_int Try.underlying3)))
theorem oArg0 : Opens Try.prog 22 (Kd.slice 48 kF) (fun v => v.length ≤ maxLen ∧ v.length * 16 ≤ 140737488351232 ∧ ∀ x ∈ v, GF x) := (opens_slice 48 Try.underlying22 (by kernel_rfl) (by kernel_rfl) oF)
theorem own : ownKnob Try.prog.godebug = none := by kernel_rfl
set_option maxRecDepth 100000 in
theorem lifted (os : Os) (started : os.Started) (H : Type) (enc : TypeId × Value → H) :
    ReturnsInHanded {} Try.checked os 3 .any (Rows.prefsTellsSpec.pre6 enc Try.prog Try.f3 Rows.prefsTellsRow.domain false) (Rows.prefsTellsSpec.post enc Try.prog Try.f3 false true false false) := by
  refine returnsInHanded_of_change_sized (C := Try.checked) own started (by kernel_rfl) Try.func3
    (ChangeSpec.witness6 (enc := enc) (C := Try.checked) false ⟨#[], #[.slice none 0 0, .string ⟨#[]⟩, .int .i64 0], []⟩ 8 (by kernel_rfl) (by kernel_rfl) (by kernel_rfl) (by kernel_rfl)) ?_
  intro W base args ds gs before hval0 hW hcnd hsz0 _
  have hsz : (DataW.weightsEach Try.prog (Try.f3.params.toList ++ Rows.prefsTellsSpec.plain.varTypes Try.prog) (ds ++ gs)).all (· ≤ reachBytes) = true := hsz0
  have hval : ∀ (j : Nat) t v, Try.f3.params[j]? = some t → args[j]? = some v → Value.okWide Try.prog W .any base t v := hval0
  have hW' := hW
  obtain ⟨p, q, hA0, hV, rfl, hfz, hnd⟩ := hW
  have hA : DataW.TrodAll enc Try.prog W 0 (fun _ => true) true Try.f3.params.toList args.toList ds p := hA0
  rw [Try.params3] at hA hval hsz
  obtain ⟨v0, vs0, d0, ds0, p0, q0, hargs, rfl, rfl, h0, r0⟩ := trodAll_cons hA
  obtain ⟨v1, vs1, d1, ds1, p1, q1, rfl, rfl, rfl, h1, r1⟩ := trodAll_cons r0
  obtain ⟨v2, vs2, d2, ds2, p2, q2, rfl, rfl, rfl, h2, r2⟩ := trodAll_cons r1
  obtain ⟨rfl, rfl, rfl⟩ := trodAll_nil r2
  obtain rfl : args = #[v0, v1, v2] := by cases args; simp_all
  obtain ⟨rfl, rfl⟩ := trodVars_none hV
  have k0 := h0
  have lt0 : ∀ x ∈ p0, x.block < W.heap.size := by obtain ⟨m, hm⟩ := k0; exact DataW.trod_lt m _ _ _ hm
  obtain ⟨A0, c0, l0, rfl, hc0, hr0, hG0⟩ := opens_arg_slice oArg0 Try.underlying22 (hval 0 22 v0 rfl rfl) hsz (j := 0) (t := 22) rfl rfl h0
  obtain ⟨a1, rfl, rfl, rfl, w1⟩ := open_string Try.underlying9 (hval 1 9 v1 rfl rfl) h1
  obtain ⟨a2, rfl, rfl, rfl, w2⟩ := open_int Try.underlying3 (hval 2 3 v2 rfl rfl) h2
  clear hA0 hval0 hsz0 hsz
  refine ((fun W A0 c0 l0 hr0 hc0 a1 w1 a2 w2 => Close.PrefsTells_all W A0 c0 l0 hr0 hc0 a1 a2) W A0 c0 l0 hr0 hc0 a1 w1 a2 w2).mono fun e W' ⟨he, bel⟩ => ?_
  subst he
  exact ⟨_, rfl, _, _, _, [], _, [], hW', trodAll_mk1 (shut_bool Try.underlying4 _), (trodAll_cons_mk (Below.trod laidOut (by kernel_rfl) (of_decide_eq_true (by kernel_rfl)) k0 bel lt0) (trodAll_cons_mk (shut_string Try.underlying9 w1) (trodAll_cons_mk (shut_int Try.underlying3 w2) trodAll_mk0))), rfl, bel.frame _, fun h => by cases h⟩
theorem over : Rows.prefsTellsRow.holds Try.pinned (OpenSpec.ofChange Rows.prefsTellsSpec) :=
  OpenClaim.holds_of_wide 3 Try.f3 rfl rfl rfl rfl rfl rfl rfl ⟨rfl, rfl, rfl, rfl, rfl⟩ rfl rfl rfl rfl rfl (by kernel_rfl) Try.func3 (by kernel_rfl)
    (of_decide_eq_true (by kernel_rfl)) (by unfold Func.isWrapper; first | (rw [if_pos (by decide +kernel)]; kernel_rfl) | (rw [if_neg (by decide +kernel)]; exact ⟨rfl, rfl⟩))
    (fun os started H enc _ => lifted os started H enc)
theorem proved : Rows.PrefsTellsSaid := over
#print axioms proved
end Go.Proofs.Ytfeihaoppahmnaa.prefsTells
namespace Go.Proofs.Ytfeihaoppahmnaa
/-- The row, under a short name, for the claim. -/
theorem prefsTells_holds : Rows.PrefsTellsSaid := prefsTells.proved
end Go.Proofs.Ytfeihaoppahmnaa
