/-
  DERIVED. GIVEN WITH THE SEED: THE CARDS: each row of YtkijckccfookeaaDoorRows.lean that lists a variable, with what it lists TIED to the program's text (the seventh form; the later family's looks); each row that meets fmt, with fmt's text TOLD by the authors' own Lean function (tested against real Go, not proved from fmt's source: count such statements apart). THE CARD IS WHAT COUNTS. Prove the row's statement (the work); the ties are given (YtkijckccfookeaaDoorTie.lean); close each card by the builder's one call (the guide's Derived/Test/ToyasCard.lean, 'card_holds'). Laid BY PROGRAM, IN A SANDBOX (cutbox-door.mjs). By AI agents, Wed Nov 11 2026. No macro, syntax, notation, axiom, sorry.
-/
import Derived.Test.YtkijckccfookeaaDoorRows
import GoSem.ClaimSeven
namespace Go.Proofs.YtkijckccfookeaaDoor
namespace Rows

/-- THE TIED CARD OF 'fleuronlaw09.UnparseUnlike'. -/
def unparseUnlikeCard : Claim7 := { stood := { row := unparseUnlikeRow, standIns := [], harness := (true, "9ee4e859a53d4b8fab20a5c79513140a960b859187cb58a222b4b9a48d551800"), looks := false }, kinds := [], alts := [], laidByText := true, laidKinds := [.data, .data, .data, .data, .data, .data], laidTests := true, laidLooks := .later }
def UnparseUnlikeCardSaid : Prop := Claim7.holds Tryd.pinned (.plain (OpenSpec.ofChange unparseUnlikeSpec)) unparseUnlikeCard

/-- THE TIED CARD OF 'fleuronlaw09.UnparseOps'. -/
def unparseOpsCard : Claim7 := { stood := { row := unparseOpsRow, standIns := [], harness := (true, "9ee4e859a53d4b8fab20a5c79513140a960b859187cb58a222b4b9a48d551800"), looks := false }, kinds := [], alts := [], laidByText := true, laidKinds := [.data, .data, .data, .data, .data, .data, .data], laidTests := true, laidLooks := .later }
def UnparseOpsCardSaid : Prop := Claim7.holds Tryd.pinned (.plain (OpenSpec.ofChange unparseOpsSpec)) unparseOpsCard

/-- THE TIED CARD OF 'fleuronlaw09.UnparseLines'. -/
def unparseLinesCard : Claim7 := { stood := { row := unparseLinesRow, standIns := [], harness := (true, "9ee4e859a53d4b8fab20a5c79513140a960b859187cb58a222b4b9a48d551800"), looks := false }, kinds := [], alts := [], laidByText := true, laidKinds := [.data, .data, .data, .data, .data, .data, .data, .pinned], laidTests := true, laidLooks := .later }
def UnparseLinesCardSaid : Prop := Claim7.holds Tryd.pinned (.plain (OpenSpec.ofChange unparseLinesSpec)) unparseLinesCard

/-- THE SECOND FORM's CARD OF 'fleuronlaw09.UnparseUnlike'. -/
def unparseUnlikeUptoCard : Claim7 := { stood := { row := unparseUnlikeUptoRow, standIns := [], harness := (true, "9ee4e859a53d4b8fab20a5c79513140a960b859187cb58a222b4b9a48d551800"), looks := false }, kinds := [], alts := [], laidByText := true, laidKinds := [.data, .data, .data, .data, .data, .data], laidTests := true, laidLooks := .later }
def UnparseUnlikeUptoCardSaid : Prop := Claim7.holds Tryd.pinned (.plain (OpenSpec.upto unparseUnlikeSpec)) unparseUnlikeUptoCard

/-- THE SECOND FORM's CARD OF 'fleuronlaw09.UnparseOps'. -/
def unparseOpsUptoCard : Claim7 := { stood := { row := unparseOpsUptoRow, standIns := [], harness := (true, "9ee4e859a53d4b8fab20a5c79513140a960b859187cb58a222b4b9a48d551800"), looks := false }, kinds := [], alts := [], laidByText := true, laidKinds := [.data, .data, .data, .data, .data, .data, .data], laidTests := true, laidLooks := .later }
def UnparseOpsUptoCardSaid : Prop := Claim7.holds Tryd.pinned (.plain (OpenSpec.upto unparseOpsSpec)) unparseOpsUptoCard

/-- THE SECOND FORM's CARD OF 'fleuronlaw09.UnparseLines'. -/
def unparseLinesUptoCard : Claim7 := { stood := { row := unparseLinesUptoRow, standIns := [], harness := (true, "9ee4e859a53d4b8fab20a5c79513140a960b859187cb58a222b4b9a48d551800"), looks := false }, kinds := [], alts := [], laidByText := true, laidKinds := [.data, .data, .data, .data, .data, .data, .data, .pinned], laidTests := true, laidLooks := .later }
def UnparseLinesUptoCardSaid : Prop := Claim7.holds Tryd.pinned (.plain (OpenSpec.upto unparseLinesSpec)) unparseLinesUptoCard
end Rows
end Go.Proofs.YtkijckccfookeaaDoor
