/-
  DERIVED. GIVEN WITH THE SEED: THE CARDS: each row of YtckfmokbebmlbaaDoorRows.lean that lists a variable, with what it lists TIED to the program's text (the seventh form; the later family's looks); each row that meets fmt, with fmt's text TOLD by the authors' own Lean function (tested against real Go, not proved from fmt's source: count such statements apart). THE CARD IS WHAT COUNTS. Prove the row's statement (the work); the ties are given (YtckfmokbebmlbaaDoorTie.lean); close each card by the builder's one call (the guide's Derived/Test/ToyasCard.lean, 'card_holds'). Laid BY PROGRAM, IN A SANDBOX (cutbox-door.mjs). By AI agents, Wed Nov 11 2026. No macro, syntax, notation, axiom, sorry.
-/
import Derived.Test.YtckfmokbebmlbaaDoorRows
import GoSem.ClaimSeven
namespace Go.Proofs.YtckfmokbebmlbaaDoor
namespace Rows

/-- THE TIED CARD OF 'bywashlaw21.RetryTells'. -/
def retryTellsCard : Claim7 := { stood := { row := retryTellsRow, standIns := [], harness := (true, "2cc36cf49f1cfc7d78be5a5ce33536231ecf7ba875081842ce1e449c67717c65"), looks := true }, kinds := [], alts := [], laidByText := true, laidKinds := [.handle], laidTests := true, laidLooks := .later }
def RetryTellsCardSaid : Prop := Claim7.holds Tryd.pinned (.plain (OpenSpec.ofChange retryTellsSpec)) retryTellsCard

/-- THE SECOND FORM's CARD OF 'bywashlaw21.RetryTells'. -/
def retryTellsUptoCard : Claim7 := { stood := { row := retryTellsUptoRow, standIns := [], harness := (true, "2cc36cf49f1cfc7d78be5a5ce33536231ecf7ba875081842ce1e449c67717c65"), looks := true }, kinds := [], alts := [], laidByText := true, laidKinds := [.handle], laidTests := true, laidLooks := .later }
def RetryTellsUptoCardSaid : Prop := Claim7.holds Tryd.pinned (.plain (OpenSpec.upto retryTellsSpec)) retryTellsUptoCard
end Rows
end Go.Proofs.YtckfmokbebmlbaaDoor
