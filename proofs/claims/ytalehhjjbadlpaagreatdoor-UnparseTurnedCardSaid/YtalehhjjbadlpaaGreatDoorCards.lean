/-
  DERIVED. GIVEN WITH THE SEED: THE CARDS: each row of YtalehhjjbadlpaaGreatDoorRows.lean that lists a variable, with what it lists TIED to the program's text (the seventh form; the later family's looks); each row that meets fmt, with fmt's text TOLD by the authors' own Lean function (tested against real Go, not proved from fmt's source: count such statements apart). THE CARD IS WHAT COUNTS. Prove the row's statement (the work); the ties are given (YtalehhjjbadlpaaGreatDoorTie.lean); close each card by the builder's one call (the guide's Derived/Test/ToyasCard.lean, 'card_holds'). Laid BY PROGRAM, IN A SANDBOX (cutbox-door.mjs). By AI agents, Wed Nov 11 2026. No macro, syntax, notation, axiom, sorry.
-/
import Derived.Test.YtalehhjjbadlpaaGreatDoorRows
import GoSem.ClaimSeven
namespace Go.Proofs.YtalehhjjbadlpaaGreatDoor
namespace Rows

/-- THE TIED CARD OF 'fleuronlaw09.UnparseTurned'. -/
def unparseTurnedCard : Claim7 := { stood := { row := unparseTurnedRow, standIns := [], harness := (true, "7d3f4406625d0d52175a19f5682725bcebf5db2d33b9d6ced795f0a6e6d221e6"), looks := false }, kinds := [], alts := [], laidByText := true, laidKinds := [.data, .data, .data, .data, .data, .data, .data, .data, .data, .data, .pinned], laidTests := true, laidLooks := .later }
def UnparseTurnedCardSaid : Prop := Claim7.holds Tryz.pinned (.plain (OpenSpec.ofChange unparseTurnedSpec)) unparseTurnedCard

/-- THE SECOND FORM's CARD OF 'fleuronlaw09.UnparseTurned'. -/
def unparseTurnedUptoCard : Claim7 := { stood := { row := unparseTurnedUptoRow, standIns := [], harness := (true, "7d3f4406625d0d52175a19f5682725bcebf5db2d33b9d6ced795f0a6e6d221e6"), looks := false }, kinds := [], alts := [], laidByText := true, laidKinds := [.data, .data, .data, .data, .data, .data, .data, .data, .data, .data, .pinned], laidTests := true, laidLooks := .later }
def UnparseTurnedUptoCardSaid : Prop := Claim7.holds Tryz.pinned (.plain (OpenSpec.upto unparseTurnedSpec)) unparseTurnedUptoCard
end Rows
end Go.Proofs.YtalehhjjbadlpaaGreatDoor
