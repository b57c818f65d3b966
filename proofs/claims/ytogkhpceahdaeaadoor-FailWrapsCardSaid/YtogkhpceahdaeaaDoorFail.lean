/- What the functions of package fail do with failures, and what errors.Is does with chains of them: contracts of the calls. Conditions: those that each contract names. -/
import Derived.Test.YtogkhpceahdaeaaDoorChecked
import Derived.WalkKit
import Derived.LaidEql
import Derived.LaidEqlPtr
import Derived.Stop.Asserts
import Derived.RowKitTokens
import Derived.Laws.Externs
import Derived.WalkSpells
import Derived.WalkLawsBesides
import Derived.Lib.Hide
import Derived.Below
import Derived.Deep.QuietTactic
import Derived.BigQuiet
import Derived.Deep.RegionWith
namespace Go.Proofs.YtogkhpceahdaeaaDoor.Fail
open Go.RowKit Go.Extern.Stop Go.Stop Go.Extern
set_option linter.unusedVariables false
set_option linter.unusedSimpArgs false

/-- A failure's cells. -/
def failure (op : ByteArray) (c : Int) (e : Value) : Obj := .cells #[.string op, .int .i64 c, e] 30 (0, 0)
abbrev ref (b : Nat) : Value := .pointer (some ⟨b, 0, none⟩)
abbrev err (b : Nat) : Value := .iface 26 (ref b)

theorem new_zero (w : World) : Calls Tryd.prog 10 #[.int .i64 0] w fun e w' => e = .returned .nilIface ∧ w = w' := by
  go_enter Tryd.func10, Tryd.ntmps10
  go_wp2
  go_ret
  exact ⟨rfl, rfl⟩

theorem new_some (c : Int) (hc : c ≠ 0) (w : World) : Calls Tryd.prog 10 #[.int .i64 c] w fun e w' => e = .returned (err w.heap.size) ∧ w' = w.alloc (failure ⟨#[]⟩ c .nilIface) := by
  have h1 : (c == 0) = false := by simpa using hc
  go_enter Tryd.func10, Tryd.ntmps10
  go_wp2
  go_ret
  exact ⟨rfl, rfl⟩

theorem unwrap_nil (w : World) : Calls Tryd.prog 14 #[.pointer none] w fun e w' => e = .returned .nilIface ∧ w = w' := by
  go_enter Tryd.func14, Tryd.ntmps14
  go_wp2
  go_ret
  exact ⟨rfl, rfl⟩

theorem unwrap_some (w : World) (b : Nat) (op : ByteArray) (c : Int) (E : Value) (hb : w.heap[b]? = some (failure op c E)) :
    Calls Tryd.prog 14 #[ref b] w fun e w' => e = .returned E ∧ w = w' := by
  have h2 : w.cell? ⟨b, 2, none⟩ = some E := by simp [World.cell?, hb, failure]
  go_enter Tryd.func14, Tryd.ntmps14
  go_wp2
  go_ret
  exact ⟨rfl, rfl⟩

theorem fcells {w : World} {b : Nat} {op : ByteArray} {c : Int} {E : Value} (hb : w.heap[b]? = some (failure op c E)) :
    w.cell? ⟨b, 0, none⟩ = some (.string op) ∧ w.cell? ⟨b, 1, none⟩ = some (.int .i64 c) ∧ w.cell? ⟨b, 2, none⟩ = some E := by
  refine ⟨?_, ?_, ?_⟩ <;> simp [World.cell?, hb, failure]

theorem asF (v : Value) (w : World) : (Instr.typeAssert (.iface 26 v) 28 26 true).run Tryd.prog w = .ok (.tuple #[v, .bool true]) w := by kernel_rfl
theorem asE (v : Value) (w : World) : (Instr.typeAssert (.iface 51 v) 28 26 true).run Tryd.prog w = .ok (.tuple #[.pointer none, .bool false]) w := by kernel_rfl
/-- Failure.Is of a bare failure with a code. -/
theorem is_bare (w : World) (b t : Nat) (op : ByteArray) (c c' : Int) (E : Value) (hc : c' ≠ 0) (hb : w.heap[b]? = some (failure op c E)) (ht : w.heap[t]? = some (failure ⟨#[]⟩ c' .nilIface)) :
    Calls Tryd.prog 15 #[ref b, err t] w fun e w' => e = .returned (.bool (c' == c)) ∧ ∃ n, w' = w.drewN n := by
  obtain ⟨hb0, hb1, hb2⟩ := fcells hb
  obtain ⟨ht0, ht1, ht2⟩ := fcells ht
  have h1 : (c' != 0) = true := by simpa using hc
  have h2 : (c' == 0) = false := by simpa using hc
  clear hb ht hb0 hb2
  have ha := asF
  go_enter Tryd.func15, Tryd.ntmps15
  go_wp2
  (try go_quiet (fail))
  (try go_wp2)
  go_ret
  first | exact ⟨rfl, 0, rfl⟩ | exact ⟨rfl, _, rfl⟩ | exact ⟨by simp, _, rfl⟩

/-- A chain of failures in W, all in blocks below B: their words and codes, the outermost first. -/
inductive Chain (W : World) (B : Nat) : Value → List (ByteArray × Int) → Prop
  | nil : Chain W B .nilIface []
  | node (b : Nat) (op : ByteArray) (c : Int) (E : Value) (l : List (ByteArray × Int)) : b < B → W.heap[b]? = some (failure op c E) → Chain W B E l → Chain W B (err b) ((op, c) :: l)

theorem Chain.unique {W : World} {B B' : Nat} {E : Value} {l l' : List (ByteArray × Int)} (h : Chain W B E l) (h' : Chain W B' E l') : l = l' := by
  induction h generalizing l' with
  | nil => cases h'; rfl
  | node b op c E1 l1 hb hc h1 ih =>
    cases h' with
    | node _ op2 c2 E2 l2 hb2 hc2 h2 =>
      rw [hc] at hc2
      simp only [failure, Option.some.injEq, Obj.cells.injEq] at hc2
      simp at hc2
      obtain ⟨rfl, rfl, rfl⟩ := hc2
      rw [ih h2]

open Classical in
/-- How many links are left. -/
noncomputable def chainLen (W : World) (B : Nat) (E : Value) : Nat := if h : ∃ l, Chain W B E l then h.choose.length else 0
theorem chainLen_eq {W : World} {B : Nat} {E : Value} {l : List (ByteArray × Int)} (h : Chain W B E l) : chainLen W B E = l.length := by
  unfold chainLen
  rw [dif_pos ⟨l, h⟩, Chain.unique (Exists.choose_spec ⟨l, h⟩) h]

theorem hasIsF (v : Value) (xT : TypeId) (w : World) : (Instr.typeAssert (.iface 26 v) xT 81 true).run Tryd.prog w = .ok (.tuple #[.iface 26 v, .bool true]) w := run_typeAssert_hasB Tryd.underlying81 (by kernel_rfl) v xT w
theorem hasUnwrapF (v : Value) (xT : TypeId) (w : World) : (Instr.typeAssert (.iface 26 v) xT 66 true).run Tryd.prog w = .ok (.tuple #[.iface 26 v, .bool true]) w := run_typeAssert_hasB Tryd.underlying66 (by kernel_rfl) v xT w
theorem methodIs (v : Value) (w : World) : (Go.method 212 26 v "Is").run Tryd.prog w = .ok (15, v) w := by kernel_rfl
theorem methodUnwrap (v : Value) (w : World) : (Go.method 212 26 v "Unwrap").run Tryd.prog w = .ok (14, v) w := by kernel_rfl
theorem isComp : (Tryd.prog.info? 26).map (·.comparable) = some true := by kernel_rfl
theorem isSize : (Tryd.prog.info? 30).map (·.size) = some 3 := by kernel_rfl

theorem is_chain (W : World) (B t : Nat) (c' : Int) (hc' : c' ≠ 0) (hB : B ≤ t) (ht : W.heap[t]? = some (failure ⟨#[]⟩ c' .nilIface)) (E : Value) (l : List (ByteArray × Int)) (hl : l ≠ []) (hch : Chain W B E l) :
    Calls Tryd.prog 30 #[E, err t, .bool true] W fun e w' => e = .returned (.bool (l.any fun x => c' == x.2)) ∧ ∃ n, w' = W.drewN n := by
  obtain ⟨i, hi, hcmp⟩ := Option.map_eq_some_iff.1 isComp
  obtain ⟨j, hj, hjs⟩ := Option.map_eq_some_iff.1 isSize
  have nI := hasIsF
  have nU := hasUnwrapF
  go_enter Tryd.func30, Tryd.ntmps30
  go_wp2
  go_loopw [0] (fun E' wl => ∃ n, wl = W.drewN n ∧ ∃ l', l' ≠ [] ∧ Chain W B E' l' ∧ ((l.any fun x => c' == x.2) = (l'.any fun x => c' == x.2))) (fun E' _ => chainLen W B E')
  case atStart => exact ⟨0, rfl, l, hl, hch, rfl⟩
  case round =>
    obtain ⟨n, rfl, l', hl', hc', hiff⟩ := hrel
    cases hc' with
    | nil => exact absurd rfl hl'
    | node b op c E1 l1 hb hcell h1 =>
      have hbt : b ≠ t := by omega
      have heq := run_eql_iface_ptr_other (P := Tryd.prog) (W.drewN n) Tryd.underlying28 Tryd.underlying26 hi hcmp hj (by rw [hjs]; decide) (a := ⟨b, 0, none⟩) (b := ⟨t, 0, none⟩) (fun h => hbt (congrArg Addr.block h)) hcell ht
      have mI := methodIs
      have mU := methodUnwrap
      by_cases hcc : (c' == c) = true
      · have HI := is_bare (W.drewN n) b t op c c' E1 hc' hcell ht
        rw [hcc] at HI
        go_wp2_with ((go_at_call 15; refine HI.mono ?_; rintro e w' ⟨rfl, m, rfl⟩))
        go_ret
        exact ⟨by rw [hiff]; simp [hcc], _, rfl⟩
      · have hcf : (c' == c) = false := by simpa using hcc
        have HI := is_bare (W.drewN n) b t op c c' E1 hc' hcell ht
        rw [hcf] at HI
        have HU := fun m : Nat => unwrap_some (W.drewN m) b op c E1 hcell
        have hiff2 : (l.any fun x => c' == x.2) = (l1.any fun x => c' == x.2) := by rw [hiff]; simp [hcf]
        have hlen := chainLen_eq h1
        have hlen0 := chainLen_eq (Chain.node b op c E1 l1 hb hcell h1)
        cases h1 with
        | nil =>
          go_wp2_with (first | (go_at_call 15; refine HI.mono ?_; rintro e w' ⟨rfl, m, rfl⟩) | (go_at_call 14; refine (HU _).mono ?_; rintro e w' ⟨rfl, rfl⟩))
          go_ret
          exact ⟨by rw [hiff2]; rfl, _, rfl⟩
        | node b2 op2 c2 E2 l2 hb2 hcell2 h2 =>
          have HC : Hid (Chain W B (err b2) ((op2, c2) :: l2)) := Chain.node b2 op2 c2 E2 l2 hb2 hcell2 h2
          clear h2 hcell2
          go_wp2_with (first | (go_at_call 15; refine HI.mono ?_; rintro e w' ⟨rfl, m, rfl⟩) | (go_at_call 14; refine (HU _).mono ?_; rintro e w' ⟨rfl, rfl⟩))
          go_roundw
          case rel => exact ⟨_, rfl, _, by simp, HC.out, hiff2⟩
          case measure =>
            show chainLen W B (err b2) < chainLen W B (err b)
            rw [hlen, hlen0]; simp
end Go.Proofs.YtogkhpceahdaeaaDoor.Fail
