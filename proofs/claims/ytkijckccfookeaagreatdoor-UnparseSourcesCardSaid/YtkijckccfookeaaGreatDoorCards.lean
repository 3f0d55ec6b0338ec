/-
  DERIVED. GIVEN WITH THE SEED: THE CARDS: each row of YtkijckccfookeaaGreatDoorRows.lean that lists a variable, with what it lists TIED to the program's text (the seventh form; the later family's looks); each row that meets fmt, with fmt's text TOLD by the authors' own Lean function (tested against real Go, not proved from fmt's source: count such statements apart). THE CARD IS WHAT COUNTS. Prove the row's statement (the work); the ties are given (YtkijckccfookeaaGreatDoorTie.lean); close each card by the builder's one call (the guide's Derived/Test/ToyasCard.lean, 'card_holds'). Laid BY PROGRAM, IN A SANDBOX (cutbox-door.mjs). By AI agents, Wed Nov 11 2026. No macro, syntax, notation, axiom, sorry.
-/
import Derived.Test.YtkijckccfookeaaGreatDoorRows
import GoSem.ClaimSeven
namespace Go.Proofs.YtkijckccfookeaaGreatDoor
namespace Rows

/-- THE TIED CARD OF 'fleuronlaw09.UnparseTurned'. -/
def unparseTurnedCard : Claim7 := { stood := { row := unparseTurnedRow, standIns := [], harness := (true, "30c0179f20ac7107fa5246d486b4f780c19a1953f7d9589a63e1278d1b02a352"), looks := false }, kinds := [], alts := [], laidByText := true, laidKinds := [.data, .data, .data, .data, .data, .data, .data, .data, .data, .data, .pinned], laidTests := true, laidLooks := .later }
def UnparseTurnedCardSaid : Prop := Claim7.holds Tryz.pinned (.plain (OpenSpec.ofChange unparseTurnedSpec)) unparseTurnedCard

/-- THE TIED CARD OF 'fleuronlaw09.UnparseSources'. -/
def unparseSourcesCard : Claim7 := { stood := { row := unparseSourcesRow, standIns := [], harness := (true, "30c0179f20ac7107fa5246d486b4f780c19a1953f7d9589a63e1278d1b02a352"), looks := false }, kinds := [], alts := [], laidByText := true, laidKinds := [.data, .data, .data, .data, .data, .data, .data, .data, .data, .data, .pinned], laidTests := true, laidLooks := .later }
def UnparseSourcesCardSaid : Prop := Claim7.holds Tryz.pinned (.plain (OpenSpec.ofChange unparseSourcesSpec)) unparseSourcesCard

/-- THE TIED CARD OF 'fleuronlaw08.ParseBack'. -/
def parseBackCard : Claim7 := { stood := { row := parseBackRow, standIns := [], harness := (true, "30c0179f20ac7107fa5246d486b4f780c19a1953f7d9589a63e1278d1b02a352"), looks := false }, kinds := [], alts := [], laidByText := true, laidKinds := [.data, .data, .data, .data, .pinned], laidTests := true, laidLooks := .later }
def ParseBackCardSaid : Prop := Claim7.holds Tryz.pinned (.plain (OpenSpec.ofChange parseBackSpec)) parseBackCard

/-- THE TIED CARD OF 'fleuronlaw08.ParseOps'. -/
def parseOpsCard : Claim7 := { stood := { row := parseOpsRow, standIns := [], harness := (true, "30c0179f20ac7107fa5246d486b4f780c19a1953f7d9589a63e1278d1b02a352"), looks := false }, kinds := [], alts := [], laidByText := true, laidKinds := [.data, .data, .data, .data, .pinned], laidTests := true, laidLooks := .later }
def ParseOpsCardSaid : Prop := Claim7.holds Tryz.pinned (.plain (OpenSpec.ofChange parseOpsSpec)) parseOpsCard

/-- THE TIED CARD OF 'fleuronlaw08.ParseLines'. -/
def parseLinesCard : Claim7 := { stood := { row := parseLinesRow, standIns := [], harness := (true, "30c0179f20ac7107fa5246d486b4f780c19a1953f7d9589a63e1278d1b02a352"), looks := false }, kinds := [], alts := [], laidByText := true, laidKinds := [.data, .data, .data, .data, .pinned], laidTests := true, laidLooks := .later }
def ParseLinesCardSaid : Prop := Claim7.holds Tryz.pinned (.plain (OpenSpec.ofChange parseLinesSpec)) parseLinesCard

/-- THE TIED CARD OF 'fleuronlaw08.ParseFirst'. -/
def parseFirstCard : Claim7 := { stood := { row := parseFirstRow, standIns := [], harness := (true, "30c0179f20ac7107fa5246d486b4f780c19a1953f7d9589a63e1278d1b02a352"), looks := false }, kinds := [], alts := [], laidByText := true, laidKinds := [.data, .data, .data, .data, .pinned], laidTests := true, laidLooks := .later }
def ParseFirstCardSaid : Prop := Claim7.holds Tryz.pinned (.plain (OpenSpec.ofChange parseFirstSpec)) parseFirstCard

/-- THE TIED CARD OF 'fleuronlaw08.ParsePairs'. -/
def parsePairsCard : Claim7 := { stood := { row := parsePairsRow, standIns := [], harness := (true, "30c0179f20ac7107fa5246d486b4f780c19a1953f7d9589a63e1278d1b02a352"), looks := false }, kinds := [], alts := [], laidByText := true, laidKinds := [.data, .data, .data, .data, .pinned], laidTests := true, laidLooks := .later }
def ParsePairsCardSaid : Prop := Claim7.holds Tryz.pinned (.plain (OpenSpec.ofChange parsePairsSpec)) parsePairsCard

/-- THE TIED CARD OF 'fleuronlaw08.ParseClasses'. -/
def parseClassesCard : Claim7 := { stood := { row := parseClassesRow, standIns := [], harness := (true, "30c0179f20ac7107fa5246d486b4f780c19a1953f7d9589a63e1278d1b02a352"), looks := false }, kinds := [], alts := [], laidByText := true, laidKinds := [.data, .data, .data, .data, .pinned], laidTests := true, laidLooks := .later }
def ParseClassesCardSaid : Prop := Claim7.holds Tryz.pinned (.plain (OpenSpec.ofChange parseClassesSpec)) parseClassesCard

/-- THE TIED CARD OF 'fleuronlaw08.ParseWrong'. -/
def parseWrongCard : Claim7 := { stood := { row := parseWrongRow, standIns := [], harness := (true, "30c0179f20ac7107fa5246d486b4f780c19a1953f7d9589a63e1278d1b02a352"), looks := false }, kinds := [], alts := [], laidByText := true, laidKinds := [.data, .data, .data, .data, .pinned], laidTests := true, laidLooks := .later }
def ParseWrongCardSaid : Prop := Claim7.holds Tryz.pinned (.plain (OpenSpec.ofChange parseWrongSpec)) parseWrongCard

/-- THE TIED CARD OF 'fleuronlaw08.ParseNeeds'. -/
def parseNeedsCard : Claim7 := { stood := { row := parseNeedsRow, standIns := [], harness := (true, "30c0179f20ac7107fa5246d486b4f780c19a1953f7d9589a63e1278d1b02a352"), looks := false }, kinds := [], alts := [], laidByText := true, laidKinds := [.data, .data, .data, .data, .pinned], laidTests := true, laidLooks := .later }
def ParseNeedsCardSaid : Prop := Claim7.holds Tryz.pinned (.plain (OpenSpec.ofChange parseNeedsSpec)) parseNeedsCard

/-- THE TIED CARD OF 'fleuronlaw09.UnparseParses'. -/
def unparseParsesCard : Claim7 := { stood := { row := unparseParsesRow, standIns := [], harness := (true, "30c0179f20ac7107fa5246d486b4f780c19a1953f7d9589a63e1278d1b02a352"), looks := false }, kinds := [], alts := [], laidByText := true, laidKinds := [.data, .data, .data, .data, .data, .data, .data, .data, .data, .data, .pinned], laidTests := true, laidLooks := .later }
def UnparseParsesCardSaid : Prop := Claim7.holds Tryz.pinned (.plain (OpenSpec.ofChange unparseParsesSpec)) unparseParsesCard

/-- THE SECOND FORM's CARD OF 'fleuronlaw09.UnparseTurned'. -/
def unparseTurnedUptoCard : Claim7 := { stood := { row := unparseTurnedUptoRow, standIns := [], harness := (true, "30c0179f20ac7107fa5246d486b4f780c19a1953f7d9589a63e1278d1b02a352"), looks := false }, kinds := [], alts := [], laidByText := true, laidKinds := [.data, .data, .data, .data, .data, .data, .data, .data, .data, .data, .pinned], laidTests := true, laidLooks := .later }
def UnparseTurnedUptoCardSaid : Prop := Claim7.holds Tryz.pinned (.plain (OpenSpec.upto unparseTurnedSpec)) unparseTurnedUptoCard

/-- THE SECOND FORM's CARD OF 'fleuronlaw09.UnparseSources'. -/
def unparseSourcesUptoCard : Claim7 := { stood := { row := unparseSourcesUptoRow, standIns := [], harness := (true, "30c0179f20ac7107fa5246d486b4f780c19a1953f7d9589a63e1278d1b02a352"), looks := false }, kinds := [], alts := [], laidByText := true, laidKinds := [.data, .data, .data, .data, .data, .data, .data, .data, .data, .data, .pinned], laidTests := true, laidLooks := .later }
def UnparseSourcesUptoCardSaid : Prop := Claim7.holds Tryz.pinned (.plain (OpenSpec.upto unparseSourcesSpec)) unparseSourcesUptoCard

/-- THE SECOND FORM's CARD OF 'fleuronlaw08.ParseBack'. -/
def parseBackUptoCard : Claim7 := { stood := { row := parseBackUptoRow, standIns := [], harness := (true, "30c0179f20ac7107fa5246d486b4f780c19a1953f7d9589a63e1278d1b02a352"), looks := false }, kinds := [], alts := [], laidByText := true, laidKinds := [.data, .data, .data, .data, .pinned], laidTests := true, laidLooks := .later }
def ParseBackUptoCardSaid : Prop := Claim7.holds Tryz.pinned (.plain (OpenSpec.upto parseBackSpec)) parseBackUptoCard

/-- THE SECOND FORM's CARD OF 'fleuronlaw08.ParseOps'. -/
def parseOpsUptoCard : Claim7 := { stood := { row := parseOpsUptoRow, standIns := [], harness := (true, "30c0179f20ac7107fa5246d486b4f780c19a1953f7d9589a63e1278d1b02a352"), looks := false }, kinds := [], alts := [], laidByText := true, laidKinds := [.data, .data, .data, .data, .pinned], laidTests := true, laidLooks := .later }
def ParseOpsUptoCardSaid : Prop := Claim7.holds Tryz.pinned (.plain (OpenSpec.upto parseOpsSpec)) parseOpsUptoCard

/-- THE SECOND FORM's CARD OF 'fleuronlaw08.ParseLines'. -/
def parseLinesUptoCard : Claim7 := { stood := { row := parseLinesUptoRow, standIns := [], harness := (true, "30c0179f20ac7107fa5246d486b4f780c19a1953f7d9589a63e1278d1b02a352"), looks := false }, kinds := [], alts := [], laidByText := true, laidKinds := [.data, .data, .data, .data, .pinned], laidTests := true, laidLooks := .later }
def ParseLinesUptoCardSaid : Prop := Claim7.holds Tryz.pinned (.plain (OpenSpec.upto parseLinesSpec)) parseLinesUptoCard

/-- THE SECOND FORM's CARD OF 'fleuronlaw08.ParseFirst'. -/
def parseFirstUptoCard : Claim7 := { stood := { row := parseFirstUptoRow, standIns := [], harness := (true, "30c0179f20ac7107fa5246d486b4f780c19a1953f7d9589a63e1278d1b02a352"), looks := false }, kinds := [], alts := [], laidByText := true, laidKinds := [.data, .data, .data, .data, .pinned], laidTests := true, laidLooks := .later }
def ParseFirstUptoCardSaid : Prop := Claim7.holds Tryz.pinned (.plain (OpenSpec.upto parseFirstSpec)) parseFirstUptoCard

/-- THE SECOND FORM's CARD OF 'fleuronlaw08.ParsePairs'. -/
def parsePairsUptoCard : Claim7 := { stood := { row := parsePairsUptoRow, standIns := [], harness := (true, "30c0179f20ac7107fa5246d486b4f780c19a1953f7d9589a63e1278d1b02a352"), looks := false }, kinds := [], alts := [], laidByText := true, laidKinds := [.data, .data, .data, .data, .pinned], laidTests := true, laidLooks := .later }
def ParsePairsUptoCardSaid : Prop := Claim7.holds Tryz.pinned (.plain (OpenSpec.upto parsePairsSpec)) parsePairsUptoCard

/-- THE SECOND FORM's CARD OF 'fleuronlaw08.ParseClasses'. -/
def parseClassesUptoCard : Claim7 := { stood := { row := parseClassesUptoRow, standIns := [], harness := (true, "30c0179f20ac7107fa5246d486b4f780c19a1953f7d9589a63e1278d1b02a352"), looks := false }, kinds := [], alts := [], laidByText := true, laidKinds := [.data, .data, .data, .data, .pinned], laidTests := true, laidLooks := .later }
def ParseClassesUptoCardSaid : Prop := Claim7.holds Tryz.pinned (.plain (OpenSpec.upto parseClassesSpec)) parseClassesUptoCard

/-- THE SECOND FORM's CARD OF 'fleuronlaw08.ParseWrong'. -/
def parseWrongUptoCard : Claim7 := { stood := { row := parseWrongUptoRow, standIns := [], harness := (true, "30c0179f20ac7107fa5246d486b4f780c19a1953f7d9589a63e1278d1b02a352"), looks := false }, kinds := [], alts := [], laidByText := true, laidKinds := [.data, .data, .data, .data, .pinned], laidTests := true, laidLooks := .later }
def ParseWrongUptoCardSaid : Prop := Claim7.holds Tryz.pinned (.plain (OpenSpec.upto parseWrongSpec)) parseWrongUptoCard

/-- THE SECOND FORM's CARD OF 'fleuronlaw08.ParseNeeds'. -/
def parseNeedsUptoCard : Claim7 := { stood := { row := parseNeedsUptoRow, standIns := [], harness := (true, "30c0179f20ac7107fa5246d486b4f780c19a1953f7d9589a63e1278d1b02a352"), looks := false }, kinds := [], alts := [], laidByText := true, laidKinds := [.data, .data, .data, .data, .pinned], laidTests := true, laidLooks := .later }
def ParseNeedsUptoCardSaid : Prop := Claim7.holds Tryz.pinned (.plain (OpenSpec.upto parseNeedsSpec)) parseNeedsUptoCard

/-- THE SECOND FORM's CARD OF 'fleuronlaw09.UnparseParses'. -/
def unparseParsesUptoCard : Claim7 := { stood := { row := unparseParsesUptoRow, standIns := [], harness := (true, "30c0179f20ac7107fa5246d486b4f780c19a1953f7d9589a63e1278d1b02a352"), looks := false }, kinds := [], alts := [], laidByText := true, laidKinds := [.data, .data, .data, .data, .data, .data, .data, .data, .data, .data, .pinned], laidTests := true, laidLooks := .later }
def UnparseParsesUptoCardSaid : Prop := Claim7.holds Tryz.pinned (.plain (OpenSpec.upto unparseParsesSpec)) unparseParsesUptoCard
end Rows
end Go.Proofs.YtkijckccfookeaaGreatDoor
