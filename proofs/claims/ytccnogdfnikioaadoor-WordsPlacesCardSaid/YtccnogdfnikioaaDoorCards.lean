/-
  DERIVED. GIVEN WITH THE SEED: THE CARDS: each row of YtccnogdfnikioaaDoorRows.lean that lists a variable, with what it lists TIED to the program's text (the seventh form; the later family's looks); each row that meets fmt, with fmt's text TOLD by the authors' own Lean function (tested against real Go, not proved from fmt's source: count such statements apart). THE CARD IS WHAT COUNTS. Prove the row's statement (the work); the ties are given (YtccnogdfnikioaaDoorTie.lean); close each card by the builder's one call (the guide's Derived/Test/ToyasCard.lean, 'card_holds'). Laid BY PROGRAM, IN A SANDBOX (cutbox-door.mjs). By AI agents, Wed Nov 11 2026. No macro, syntax, notation, axiom, sorry.
-/
import Derived.Test.YtccnogdfnikioaaDoorRows
import GoSem.ClaimSeven
namespace Go.Proofs.YtccnogdfnikioaaDoor
namespace Rows

/-- THE TIED CARD OF 'fleuronlaw05.WordsAll'. -/
def wordsAllCard : Claim7 := { stood := { row := wordsAllRow, standIns := [], harness := (true, "fe7bef1d76547cd39e717a28ed7cb02a14da36b14cebf07508ab2232d337437a"), looks := false }, kinds := [], alts := [], laidByText := true, laidKinds := [.data, .pinned], laidTests := true, laidLooks := .later }
def WordsAllCardSaid : Prop := Claim7.holds Tryd.pinned (.plain (OpenSpec.ofChange wordsAllSpec)) wordsAllCard

/-- THE TIED CARD OF 'fleuronlaw05.WordsSets'. -/
def wordsSetsCard : Claim7 := { stood := { row := wordsSetsRow, standIns := [], harness := (true, "fe7bef1d76547cd39e717a28ed7cb02a14da36b14cebf07508ab2232d337437a"), looks := false }, kinds := [], alts := [], laidByText := true, laidKinds := [.data, .pinned], laidTests := true, laidLooks := .later }
def WordsSetsCardSaid : Prop := Claim7.holds Tryd.pinned (.plain (OpenSpec.ofChange wordsSetsSpec)) wordsSetsCard

/-- THE TIED CARD OF 'fleuronlaw05.WordsBack'. -/
def wordsBackCard : Claim7 := { stood := { row := wordsBackRow, standIns := [], harness := (true, "fe7bef1d76547cd39e717a28ed7cb02a14da36b14cebf07508ab2232d337437a"), looks := false }, kinds := [], alts := [], laidByText := true, laidKinds := [.data, .pinned], laidTests := true, laidLooks := .later }
def WordsBackCardSaid : Prop := Claim7.holds Tryd.pinned (.plain (OpenSpec.ofChange wordsBackSpec)) wordsBackCard

/-- THE TIED CARD OF 'fleuronlaw05.WordsPlaces'. -/
def wordsPlacesCard : Claim7 := { stood := { row := wordsPlacesRow, standIns := [], harness := (true, "fe7bef1d76547cd39e717a28ed7cb02a14da36b14cebf07508ab2232d337437a"), looks := false }, kinds := [], alts := [], laidByText := true, laidKinds := [.data, .pinned], laidTests := true, laidLooks := .later }
def WordsPlacesCardSaid : Prop := Claim7.holds Tryd.pinned (.plain (OpenSpec.ofChange wordsPlacesSpec)) wordsPlacesCard

/-- THE TIED CARD OF 'fleuronlaw05.WordsNotes'. -/
def wordsNotesCard : Claim7 := { stood := { row := wordsNotesRow, standIns := [], harness := (true, "fe7bef1d76547cd39e717a28ed7cb02a14da36b14cebf07508ab2232d337437a"), looks := false }, kinds := [], alts := [], laidByText := true, laidKinds := [.data, .pinned], laidTests := true, laidLooks := .later }
def WordsNotesCardSaid : Prop := Claim7.holds Tryd.pinned (.plain (OpenSpec.ofChange wordsNotesSpec)) wordsNotesCard

/-- THE TIED CARD OF 'fleuronlaw05.WordsRows'. -/
def wordsRowsCard : Claim7 := { stood := { row := wordsRowsRow, standIns := [], harness := (true, "fe7bef1d76547cd39e717a28ed7cb02a14da36b14cebf07508ab2232d337437a"), looks := false }, kinds := [], alts := [], laidByText := true, laidKinds := [.data, .pinned], laidTests := true, laidLooks := .later }
def WordsRowsCardSaid : Prop := Claim7.holds Tryd.pinned (.plain (OpenSpec.ofChange wordsRowsSpec)) wordsRowsCard

/-- THE TIED CARD OF 'fleuronlaw05.WordsNames'. -/
def wordsNamesCard : Claim7 := { stood := { row := wordsNamesRow, standIns := [], harness := (true, "fe7bef1d76547cd39e717a28ed7cb02a14da36b14cebf07508ab2232d337437a"), looks := false }, kinds := [], alts := [], laidByText := true, laidKinds := [.data, .pinned], laidTests := true, laidLooks := .later }
def WordsNamesCardSaid : Prop := Claim7.holds Tryd.pinned (.plain (OpenSpec.ofChange wordsNamesSpec)) wordsNamesCard

/-- THE TIED CARD OF 'fleuronlaw05.WordsNumbers'. -/
def wordsNumbersCard : Claim7 := { stood := { row := wordsNumbersRow, standIns := [], harness := (true, "fe7bef1d76547cd39e717a28ed7cb02a14da36b14cebf07508ab2232d337437a"), looks := false }, kinds := [], alts := [], laidByText := true, laidKinds := [.data, .pinned], laidTests := true, laidLooks := .later }
def WordsNumbersCardSaid : Prop := Claim7.holds Tryd.pinned (.plain (OpenSpec.ofChange wordsNumbersSpec)) wordsNumbersCard

/-- THE TIED CARD OF 'fleuronlaw05.WordsKinds'. -/
def wordsKindsCard : Claim7 := { stood := { row := wordsKindsRow, standIns := [], harness := (true, "fe7bef1d76547cd39e717a28ed7cb02a14da36b14cebf07508ab2232d337437a"), looks := false }, kinds := [], alts := [], laidByText := true, laidKinds := [.data, .pinned], laidTests := true, laidLooks := .later }
def WordsKindsCardSaid : Prop := Claim7.holds Tryd.pinned (.plain (OpenSpec.ofChange wordsKindsSpec)) wordsKindsCard

/-- THE SECOND FORM's CARD OF 'fleuronlaw05.WordsAll'. -/
def wordsAllUptoCard : Claim7 := { stood := { row := wordsAllUptoRow, standIns := [], harness := (true, "fe7bef1d76547cd39e717a28ed7cb02a14da36b14cebf07508ab2232d337437a"), looks := false }, kinds := [], alts := [], laidByText := true, laidKinds := [.data, .pinned], laidTests := true, laidLooks := .later }
def WordsAllUptoCardSaid : Prop := Claim7.holds Tryd.pinned (.plain (OpenSpec.upto wordsAllSpec)) wordsAllUptoCard

/-- THE SECOND FORM's CARD OF 'fleuronlaw05.WordsSets'. -/
def wordsSetsUptoCard : Claim7 := { stood := { row := wordsSetsUptoRow, standIns := [], harness := (true, "fe7bef1d76547cd39e717a28ed7cb02a14da36b14cebf07508ab2232d337437a"), looks := false }, kinds := [], alts := [], laidByText := true, laidKinds := [.data, .pinned], laidTests := true, laidLooks := .later }
def WordsSetsUptoCardSaid : Prop := Claim7.holds Tryd.pinned (.plain (OpenSpec.upto wordsSetsSpec)) wordsSetsUptoCard

/-- THE SECOND FORM's CARD OF 'fleuronlaw05.WordsBack'. -/
def wordsBackUptoCard : Claim7 := { stood := { row := wordsBackUptoRow, standIns := [], harness := (true, "fe7bef1d76547cd39e717a28ed7cb02a14da36b14cebf07508ab2232d337437a"), looks := false }, kinds := [], alts := [], laidByText := true, laidKinds := [.data, .pinned], laidTests := true, laidLooks := .later }
def WordsBackUptoCardSaid : Prop := Claim7.holds Tryd.pinned (.plain (OpenSpec.upto wordsBackSpec)) wordsBackUptoCard

/-- THE SECOND FORM's CARD OF 'fleuronlaw05.WordsPlaces'. -/
def wordsPlacesUptoCard : Claim7 := { stood := { row := wordsPlacesUptoRow, standIns := [], harness := (true, "fe7bef1d76547cd39e717a28ed7cb02a14da36b14cebf07508ab2232d337437a"), looks := false }, kinds := [], alts := [], laidByText := true, laidKinds := [.data, .pinned], laidTests := true, laidLooks := .later }
def WordsPlacesUptoCardSaid : Prop := Claim7.holds Tryd.pinned (.plain (OpenSpec.upto wordsPlacesSpec)) wordsPlacesUptoCard

/-- THE SECOND FORM's CARD OF 'fleuronlaw05.WordsNotes'. -/
def wordsNotesUptoCard : Claim7 := { stood := { row := wordsNotesUptoRow, standIns := [], harness := (true, "fe7bef1d76547cd39e717a28ed7cb02a14da36b14cebf07508ab2232d337437a"), looks := false }, kinds := [], alts := [], laidByText := true, laidKinds := [.data, .pinned], laidTests := true, laidLooks := .later }
def WordsNotesUptoCardSaid : Prop := Claim7.holds Tryd.pinned (.plain (OpenSpec.upto wordsNotesSpec)) wordsNotesUptoCard

/-- THE SECOND FORM's CARD OF 'fleuronlaw05.WordsRows'. -/
def wordsRowsUptoCard : Claim7 := { stood := { row := wordsRowsUptoRow, standIns := [], harness := (true, "fe7bef1d76547cd39e717a28ed7cb02a14da36b14cebf07508ab2232d337437a"), looks := false }, kinds := [], alts := [], laidByText := true, laidKinds := [.data, .pinned], laidTests := true, laidLooks := .later }
def WordsRowsUptoCardSaid : Prop := Claim7.holds Tryd.pinned (.plain (OpenSpec.upto wordsRowsSpec)) wordsRowsUptoCard

/-- THE SECOND FORM's CARD OF 'fleuronlaw05.WordsNames'. -/
def wordsNamesUptoCard : Claim7 := { stood := { row := wordsNamesUptoRow, standIns := [], harness := (true, "fe7bef1d76547cd39e717a28ed7cb02a14da36b14cebf07508ab2232d337437a"), looks := false }, kinds := [], alts := [], laidByText := true, laidKinds := [.data, .pinned], laidTests := true, laidLooks := .later }
def WordsNamesUptoCardSaid : Prop := Claim7.holds Tryd.pinned (.plain (OpenSpec.upto wordsNamesSpec)) wordsNamesUptoCard

/-- THE SECOND FORM's CARD OF 'fleuronlaw05.WordsNumbers'. -/
def wordsNumbersUptoCard : Claim7 := { stood := { row := wordsNumbersUptoRow, standIns := [], harness := (true, "fe7bef1d76547cd39e717a28ed7cb02a14da36b14cebf07508ab2232d337437a"), looks := false }, kinds := [], alts := [], laidByText := true, laidKinds := [.data, .pinned], laidTests := true, laidLooks := .later }
def WordsNumbersUptoCardSaid : Prop := Claim7.holds Tryd.pinned (.plain (OpenSpec.upto wordsNumbersSpec)) wordsNumbersUptoCard

/-- THE SECOND FORM's CARD OF 'fleuronlaw05.WordsKinds'. -/
def wordsKindsUptoCard : Claim7 := { stood := { row := wordsKindsUptoRow, standIns := [], harness := (true, "fe7bef1d76547cd39e717a28ed7cb02a14da36b14cebf07508ab2232d337437a"), looks := false }, kinds := [], alts := [], laidByText := true, laidKinds := [.data, .pinned], laidTests := true, laidLooks := .later }
def WordsKindsUptoCardSaid : Prop := Claim7.holds Tryd.pinned (.plain (OpenSpec.upto wordsKindsSpec)) wordsKindsUptoCard
end Rows
end Go.Proofs.YtccnogdfnikioaaDoor
