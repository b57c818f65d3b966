/-
  DERIVED. GIVEN WITH THE SEED: THE CARDS: each row of YtogkhpceahdaeaaDoorRows.lean that lists a variable, with what it lists TIED to the program's text (the seventh form; the later family's looks); each row that meets fmt, with fmt's text TOLD by the authors' own Lean function (tested against real Go, not proved from fmt's source: count such statements apart). THE CARD IS WHAT COUNTS. Prove the row's statement (the work); the ties are given (YtogkhpceahdaeaaDoorTie.lean); close each card by the builder's one call (the guide's Derived/Test/ToyasCard.lean, 'card_holds'). Laid BY PROGRAM, IN A SANDBOX (cutbox-door.mjs). By AI agents, Wed Nov 11 2026. No macro, syntax, notation, axiom, sorry.
-/
import Derived.Test.YtogkhpceahdaeaaDoorRows
import GoSem.ClaimSeven
namespace Go.Proofs.YtogkhpceahdaeaaDoor
namespace Rows

/-- THE TIED CARD OF 'bywashlaw1.FailNames'. -/
def failNamesCard : Claim7 := { stood := { row := failNamesRow, standIns := [], harness := (true, "7f3d80a8b7d2d4b4887ec25a6cac6a36d0968411eda38610499398e69e35cedf"), looks := true }, kinds := [], alts := [], laidByText := true, laidKinds := [.handle], laidTests := true, laidLooks := .later }
def FailNamesCardSaid : Prop := Claim7.holds Tryd.pinned (.plain (OpenSpec.ofChange failNamesSpec)) failNamesCard

/-- THE TIED CARD OF 'bywashlaw1.FailTells'. -/
def failTellsCard : Claim7 := { stood := { row := failTellsRow, standIns := [], harness := (true, "7f3d80a8b7d2d4b4887ec25a6cac6a36d0968411eda38610499398e69e35cedf"), looks := true }, kinds := [], alts := [], laidByText := true, laidKinds := [.handle], laidTests := true, laidLooks := .later }
def FailTellsCardSaid : Prop := Claim7.holds Tryd.pinned (.plain (OpenSpec.ofChange failTellsSpec)) failTellsCard

/-- THE TIED CARD OF 'bywashlaw1.FailUnwraps'. -/
def failUnwrapsCard : Claim7 := { stood := { row := failUnwrapsRow, standIns := [], harness := (true, "7f3d80a8b7d2d4b4887ec25a6cac6a36d0968411eda38610499398e69e35cedf"), looks := true }, kinds := [], alts := [], laidByText := true, laidKinds := [.handle], laidTests := true, laidLooks := .later }
def FailUnwrapsCardSaid : Prop := Claim7.holds Tryd.pinned (.plain (OpenSpec.ofChange failUnwrapsSpec)) failUnwrapsCard

/-- THE TIED CARD OF 'bywashlaw1.FailWraps'. -/
def failWrapsCard : Claim7 := { stood := { row := failWrapsRow, standIns := [], harness := (true, "7f3d80a8b7d2d4b4887ec25a6cac6a36d0968411eda38610499398e69e35cedf"), looks := true }, kinds := [], alts := [], laidByText := true, laidKinds := [.handle], laidTests := true, laidLooks := .later }
def FailWrapsCardSaid : Prop := Claim7.holds Tryd.pinned (.plain (OpenSpec.ofChange failWrapsSpec)) failWrapsCard

/-- THE TIED CARD OF 'bywashlaw1.FailJoined'. -/
def failJoinedCard : Claim7 := { stood := { row := failJoinedRow, standIns := [], harness := (true, "7f3d80a8b7d2d4b4887ec25a6cac6a36d0968411eda38610499398e69e35cedf"), looks := true }, kinds := [], alts := [], laidByText := true, laidKinds := [.handle], laidTests := true, laidLooks := .later }
def FailJoinedCardSaid : Prop := Claim7.holds Tryd.pinned (.plain (OpenSpec.ofChange failJoinedSpec)) failJoinedCard

/-- THE SECOND FORM's CARD OF 'bywashlaw1.FailNames'. -/
def failNamesUptoCard : Claim7 := { stood := { row := failNamesUptoRow, standIns := [], harness := (true, "7f3d80a8b7d2d4b4887ec25a6cac6a36d0968411eda38610499398e69e35cedf"), looks := true }, kinds := [], alts := [], laidByText := true, laidKinds := [.handle], laidTests := true, laidLooks := .later }
def FailNamesUptoCardSaid : Prop := Claim7.holds Tryd.pinned (.plain (OpenSpec.upto failNamesSpec)) failNamesUptoCard

/-- THE SECOND FORM's CARD OF 'bywashlaw1.FailTells'. -/
def failTellsUptoCard : Claim7 := { stood := { row := failTellsUptoRow, standIns := [], harness := (true, "7f3d80a8b7d2d4b4887ec25a6cac6a36d0968411eda38610499398e69e35cedf"), looks := true }, kinds := [], alts := [], laidByText := true, laidKinds := [.handle], laidTests := true, laidLooks := .later }
def FailTellsUptoCardSaid : Prop := Claim7.holds Tryd.pinned (.plain (OpenSpec.upto failTellsSpec)) failTellsUptoCard

/-- THE SECOND FORM's CARD OF 'bywashlaw1.FailUnwraps'. -/
def failUnwrapsUptoCard : Claim7 := { stood := { row := failUnwrapsUptoRow, standIns := [], harness := (true, "7f3d80a8b7d2d4b4887ec25a6cac6a36d0968411eda38610499398e69e35cedf"), looks := true }, kinds := [], alts := [], laidByText := true, laidKinds := [.handle], laidTests := true, laidLooks := .later }
def FailUnwrapsUptoCardSaid : Prop := Claim7.holds Tryd.pinned (.plain (OpenSpec.upto failUnwrapsSpec)) failUnwrapsUptoCard

/-- THE SECOND FORM's CARD OF 'bywashlaw1.FailWraps'. -/
def failWrapsUptoCard : Claim7 := { stood := { row := failWrapsUptoRow, standIns := [], harness := (true, "7f3d80a8b7d2d4b4887ec25a6cac6a36d0968411eda38610499398e69e35cedf"), looks := true }, kinds := [], alts := [], laidByText := true, laidKinds := [.handle], laidTests := true, laidLooks := .later }
def FailWrapsUptoCardSaid : Prop := Claim7.holds Tryd.pinned (.plain (OpenSpec.upto failWrapsSpec)) failWrapsUptoCard

/-- THE SECOND FORM's CARD OF 'bywashlaw1.FailJoined'. -/
def failJoinedUptoCard : Claim7 := { stood := { row := failJoinedUptoRow, standIns := [], harness := (true, "7f3d80a8b7d2d4b4887ec25a6cac6a36d0968411eda38610499398e69e35cedf"), looks := true }, kinds := [], alts := [], laidByText := true, laidKinds := [.handle], laidTests := true, laidLooks := .later }
def FailJoinedUptoCardSaid : Prop := Claim7.holds Tryd.pinned (.plain (OpenSpec.upto failJoinedSpec)) failJoinedUptoCard
end Rows
end Go.Proofs.YtogkhpceahdaeaaDoor
