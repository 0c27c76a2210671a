/-
  DERIVED. GIVEN WITH THE SEED: THE CARDS: each row of YtemmkpdjmgafoaaGreatDoorRows.lean that lists a variable, with what it lists TIED to the program's text (the seventh form; the later family's looks); each row that meets fmt, with fmt's text TOLD by the authors' own Lean function (tested against real Go, not proved from fmt's source: count such statements apart). THE CARD IS WHAT COUNTS. Prove the row's statement (the work); the ties are given (YtemmkpdjmgafoaaGreatDoorTie.lean); close each card by the builder's one call (the guide's Derived/Test/ToyasCard.lean, 'card_holds'). Laid BY PROGRAM, IN A SANDBOX (cutbox-door.mjs). By AI agents, Wed Nov 11 2026. No macro, syntax, notation, axiom, sorry.
-/
import Derived.Test.YtemmkpdjmgafoaaGreatDoorRows
import GoSem.ClaimSeven
namespace Go.Proofs.YtemmkpdjmgafoaaGreatDoor
namespace Rows

/-- THE TIED CARD OF 'bitcasttop.TopSent'. -/
def topSentCard : Claim7 := { stood := { row := topSentRow, standIns := [], harness := (true, "1cec89473cb6b996ef1b33a6c79064273c8c2af9e717569c2ace4b89794d9f03"), looks := false }, kinds := [], alts := [], laidByText := true, laidKinds := [.data], laidTests := true, laidLooks := .later }
def TopSentCardSaid : Prop := Claim7.holds Tryz.pinned (.plain (OpenSpec.ofChange topSentSpec)) topSentCard

/-- THE SECOND FORM's CARD OF 'bitcasttop.TopSent'. -/
def topSentUptoCard : Claim7 := { stood := { row := topSentUptoRow, standIns := [], harness := (true, "1cec89473cb6b996ef1b33a6c79064273c8c2af9e717569c2ace4b89794d9f03"), looks := false }, kinds := [], alts := [], laidByText := true, laidKinds := [.data], laidTests := true, laidLooks := .later }
def TopSentUptoCardSaid : Prop := Claim7.holds Tryz.pinned (.plain (OpenSpec.upto topSentSpec)) topSentUptoCard
end Rows
end Go.Proofs.YtemmkpdjmgafoaaGreatDoor
