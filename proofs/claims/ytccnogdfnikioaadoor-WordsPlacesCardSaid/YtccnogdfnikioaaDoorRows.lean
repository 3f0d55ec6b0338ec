/-
  NARROWER THAN 'FOR EVERY INPUT', by the rows' own cells (each row's printed sentence says how): WordsAll: laid · WordsSets: laid · WordsBack: laid · WordsPlaces: laid · WordsNotes: laid · WordsRows: laid · WordsNames: laid · WordsNumbers: laid · WordsKinds: laid.
  DERIVED. THE GIVEN ROWS OF THIS SEAT. 9 by the template 'for every input the law returns true; each argument reads behind the call as it read before'; 0 by the template 'total and deterministic' (their statements: YtccnogdfnikioaaDoorTotals.lean).
  GIVEN WITH THE SEED: the statements are not yours to turn. If you find one false, say at which input.
  Laid BY PROGRAM, IN A SANDBOX (cutbox-rows.mjs): the forced cells as the released guide's own fill.sh prints them over the translation 94d5d00f2f771d03… (all of the seat's roots in one cut). By AI agents, Wed Nov 11 2026. No macro, syntax, notation, axiom, sorry.
-/
import Derived.Test.YtccnogdfnikioaaDoorChecked
import GoSem.PinnedTables
import GoSem.Claim
import GoSem.ClaimJoined
import GoSem.ClaimMapViews
import Derived.JoinedTies
import Derived.KernelRfl
namespace Go.Proofs.YtccnogdfnikioaaDoor
/- THE CELL 'sum', in the pinned program and in every row, IS THE sha256 OF THE DUMP (.gsa) THAT YtccnogdfnikioaaDoorProg.lean LOADS. Nothing in Lean hashes anything: it is a label: what it is worth is what the hold of that sum in a sandbox is worth. -/
noncomputable def Tryd.pinned : Pinned := { name := "ytccnogdfnikioaadoor", sum := "94d5d00f2f771d030a12973e520b26059bb3d82e92e2680ea3cb1dc65a03a155", checked := Tryd.checked }
namespace Rows
def none {H : Type} : Left H := { results := [], args := [] }

/- WHAT THE LISTED PACKAGE-LEVEL VARIABLES READ AS WHEN THE CALL BEGINS. Each datum BY PROGRAM (the guide's laid-datum.mjs) off the statement by which the dump's own 'gosem.cut.vars' lays the variable. In a bare row this is a premise. The card (YtccnogdfnikioaaDoorCards.lean) ties it to the program's text. -/
def laid_unicode_utf8_acceptRanges {H : Type} : DataW H := .agg [.agg [.lit (.int .u8 128), .lit (.int .u8 191)], .agg [.lit (.int .u8 160), .lit (.int .u8 191)], .agg [.lit (.int .u8 128), .lit (.int .u8 159)], .agg [.lit (.int .u8 144), .lit (.int .u8 191)], .agg [.lit (.int .u8 128), .lit (.int .u8 143)], .agg [.lit (.int .u8 0), .lit (.int .u8 0)], .agg [.lit (.int .u8 0), .lit (.int .u8 0)], .agg [.lit (.int .u8 0), .lit (.int .u8 0)], .agg [.lit (.int .u8 0), .lit (.int .u8 0)], .agg [.lit (.int .u8 0), .lit (.int .u8 0)], .agg [.lit (.int .u8 0), .lit (.int .u8 0)], .agg [.lit (.int .u8 0), .lit (.int .u8 0)], .agg [.lit (.int .u8 0), .lit (.int .u8 0)], .agg [.lit (.int .u8 0), .lit (.int .u8 0)], .agg [.lit (.int .u8 0), .lit (.int .u8 0)], .agg [.lit (.int .u8 0), .lit (.int .u8 0)]]
/-- One of Go's own tables, pinned by name: the form's constant. -/
def laid_unicode_utf8_first : DataW Unit := Go.Pinned.utf8First

/-- 'fleuronlaw05.WordsAll': WHATEVER THE INPUT: true; the input reads as it did. -/
def wordsAllSpec : ChangeSpec := { name := "wordsAll", fn := fun _ => fun
  | [d] => { results := [.lit (.bool true)], args := [d] }
  | _ => none }
def wordsAllRow : OpenClaim := { program := "ytccnogdfnikioaadoor", sum := "94d5d00f2f771d030a12973e520b26059bb3d82e92e2680ea3cb1dc65a03a155", func := "fleuron/fleuronlaw05.WordsAll", spec := "wordsAll", inPlace := ["internal/bytealg.IndexByteString", "internal/bytealg.IndexString"], unfollowed := true, recurses := true, named := ["unicode/utf8.first", "unicode/utf8.acceptRanges", "internal/bytealg.MaxLen"], apart := false, laid := [("unicode/utf8.acceptRanges", laid_unicode_utf8_acceptRanges), ("unicode/utf8.first", laid_unicode_utf8_first)] }
def WordsAllSaid : Prop := wordsAllRow.holds Tryd.pinned (OpenSpec.ofChange wordsAllSpec)

/-- ITS FALSE NEIGHBOUR: 'it returns false'. Refute it at one input. -/
def wordsAllWrong : ChangeSpec := { name := "wordsAll", fn := fun _ => fun
  | [d] => { results := [.lit (.bool false)], args := [d] }
  | _ => none }
def WordsAllWrongFalsely : Prop := wordsAllRow.holds Tryd.pinned (OpenSpec.ofChange wordsAllWrong)

/-- 'fleuronlaw05.WordsSets': WHATEVER THE INPUT: true; the input reads as it did. -/
def wordsSetsSpec : ChangeSpec := { name := "wordsSets", fn := fun _ => fun
  | [d1, d2] => { results := [.lit (.bool true)], args := [d1, d2] }
  | _ => none }
def wordsSetsRow : OpenClaim := { program := "ytccnogdfnikioaadoor", sum := "94d5d00f2f771d030a12973e520b26059bb3d82e92e2680ea3cb1dc65a03a155", func := "fleuron/fleuronlaw05.WordsSets", spec := "wordsSets", inPlace := ["internal/bytealg.IndexByteString", "internal/bytealg.IndexString"], unfollowed := true, recurses := true, named := ["unicode/utf8.first", "unicode/utf8.acceptRanges", "internal/bytealg.MaxLen"], apart := false, laid := [("unicode/utf8.acceptRanges", laid_unicode_utf8_acceptRanges), ("unicode/utf8.first", laid_unicode_utf8_first)] }
def WordsSetsSaid : Prop := wordsSetsRow.holds Tryd.pinned (OpenSpec.ofChange wordsSetsSpec)

/-- ITS FALSE NEIGHBOUR: 'it returns false'. Refute it at one input. -/
def wordsSetsWrong : ChangeSpec := { name := "wordsSets", fn := fun _ => fun
  | [d1, d2] => { results := [.lit (.bool false)], args := [d1, d2] }
  | _ => none }
def WordsSetsWrongFalsely : Prop := wordsSetsRow.holds Tryd.pinned (OpenSpec.ofChange wordsSetsWrong)

/-- 'fleuronlaw05.WordsBack': WHATEVER THE INPUT: true; the input reads as it did. -/
def wordsBackSpec : ChangeSpec := { name := "wordsBack", fn := fun _ => fun
  | [d1, d2] => { results := [.lit (.bool true)], args := [d1, d2] }
  | _ => none }
def wordsBackRow : OpenClaim := { program := "ytccnogdfnikioaadoor", sum := "94d5d00f2f771d030a12973e520b26059bb3d82e92e2680ea3cb1dc65a03a155", func := "fleuron/fleuronlaw05.WordsBack", spec := "wordsBack", inPlace := ["internal/bytealg.IndexByteString", "internal/bytealg.IndexString"], unfollowed := true, recurses := true, named := ["unicode/utf8.first", "unicode/utf8.acceptRanges", "internal/bytealg.MaxLen"], apart := false, laid := [("unicode/utf8.acceptRanges", laid_unicode_utf8_acceptRanges), ("unicode/utf8.first", laid_unicode_utf8_first)] }
def WordsBackSaid : Prop := wordsBackRow.holds Tryd.pinned (OpenSpec.ofChange wordsBackSpec)

/-- ITS FALSE NEIGHBOUR: 'it returns false'. Refute it at one input. -/
def wordsBackWrong : ChangeSpec := { name := "wordsBack", fn := fun _ => fun
  | [d1, d2] => { results := [.lit (.bool false)], args := [d1, d2] }
  | _ => none }
def WordsBackWrongFalsely : Prop := wordsBackRow.holds Tryd.pinned (OpenSpec.ofChange wordsBackWrong)

/-- 'fleuronlaw05.WordsPlaces': WHATEVER THE INPUT: true; the input reads as it did. -/
def wordsPlacesSpec : ChangeSpec := { name := "wordsPlaces", fn := fun _ => fun
  | [d] => { results := [.lit (.bool true)], args := [d] }
  | _ => none }
def wordsPlacesRow : OpenClaim := { program := "ytccnogdfnikioaadoor", sum := "94d5d00f2f771d030a12973e520b26059bb3d82e92e2680ea3cb1dc65a03a155", func := "fleuron/fleuronlaw05.WordsPlaces", spec := "wordsPlaces", inPlace := ["internal/bytealg.IndexByteString", "internal/bytealg.IndexString"], unfollowed := true, recurses := true, named := ["unicode/utf8.first", "unicode/utf8.acceptRanges", "internal/bytealg.MaxLen"], apart := false, laid := [("unicode/utf8.acceptRanges", laid_unicode_utf8_acceptRanges), ("unicode/utf8.first", laid_unicode_utf8_first)] }
def WordsPlacesSaid : Prop := wordsPlacesRow.holds Tryd.pinned (OpenSpec.ofChange wordsPlacesSpec)

/-- ITS FALSE NEIGHBOUR: 'it returns false'. Refute it at one input. -/
def wordsPlacesWrong : ChangeSpec := { name := "wordsPlaces", fn := fun _ => fun
  | [d] => { results := [.lit (.bool false)], args := [d] }
  | _ => none }
def WordsPlacesWrongFalsely : Prop := wordsPlacesRow.holds Tryd.pinned (OpenSpec.ofChange wordsPlacesWrong)

/-- 'fleuronlaw05.WordsNotes': WHATEVER THE INPUT: true; the input reads as it did. -/
def wordsNotesSpec : ChangeSpec := { name := "wordsNotes", fn := fun _ => fun
  | [d1, d2, d3] => { results := [.lit (.bool true)], args := [d1, d2, d3] }
  | _ => none }
def wordsNotesRow : OpenClaim := { program := "ytccnogdfnikioaadoor", sum := "94d5d00f2f771d030a12973e520b26059bb3d82e92e2680ea3cb1dc65a03a155", func := "fleuron/fleuronlaw05.WordsNotes", spec := "wordsNotes", inPlace := ["internal/bytealg.IndexByteString", "internal/bytealg.IndexString"], unfollowed := true, recurses := true, named := ["unicode/utf8.first", "unicode/utf8.acceptRanges", "internal/bytealg.MaxLen"], apart := false, laid := [("unicode/utf8.acceptRanges", laid_unicode_utf8_acceptRanges), ("unicode/utf8.first", laid_unicode_utf8_first)] }
def WordsNotesSaid : Prop := wordsNotesRow.holds Tryd.pinned (OpenSpec.ofChange wordsNotesSpec)

/-- ITS FALSE NEIGHBOUR: 'it returns false'. Refute it at one input. -/
def wordsNotesWrong : ChangeSpec := { name := "wordsNotes", fn := fun _ => fun
  | [d1, d2, d3] => { results := [.lit (.bool false)], args := [d1, d2, d3] }
  | _ => none }
def WordsNotesWrongFalsely : Prop := wordsNotesRow.holds Tryd.pinned (OpenSpec.ofChange wordsNotesWrong)

/-- 'fleuronlaw05.WordsRows': WHATEVER THE INPUT: true; the input reads as it did. -/
def wordsRowsSpec : ChangeSpec := { name := "wordsRows", fn := fun _ => fun
  | [d1, d2, d3] => { results := [.lit (.bool true)], args := [d1, d2, d3] }
  | _ => none }
def wordsRowsRow : OpenClaim := { program := "ytccnogdfnikioaadoor", sum := "94d5d00f2f771d030a12973e520b26059bb3d82e92e2680ea3cb1dc65a03a155", func := "fleuron/fleuronlaw05.WordsRows", spec := "wordsRows", inPlace := ["internal/bytealg.IndexByteString", "internal/bytealg.IndexString"], unfollowed := true, recurses := true, named := ["unicode/utf8.first", "unicode/utf8.acceptRanges", "internal/bytealg.MaxLen"], apart := false, laid := [("unicode/utf8.acceptRanges", laid_unicode_utf8_acceptRanges), ("unicode/utf8.first", laid_unicode_utf8_first)] }
def WordsRowsSaid : Prop := wordsRowsRow.holds Tryd.pinned (OpenSpec.ofChange wordsRowsSpec)

/-- ITS FALSE NEIGHBOUR: 'it returns false'. Refute it at one input. -/
def wordsRowsWrong : ChangeSpec := { name := "wordsRows", fn := fun _ => fun
  | [d1, d2, d3] => { results := [.lit (.bool false)], args := [d1, d2, d3] }
  | _ => none }
def WordsRowsWrongFalsely : Prop := wordsRowsRow.holds Tryd.pinned (OpenSpec.ofChange wordsRowsWrong)

/-- 'fleuronlaw05.WordsNames': WHATEVER THE INPUT: true; the input reads as it did. -/
def wordsNamesSpec : ChangeSpec := { name := "wordsNames", fn := fun _ => fun
  | [d1, d2] => { results := [.lit (.bool true)], args := [d1, d2] }
  | _ => none }
def wordsNamesRow : OpenClaim := { program := "ytccnogdfnikioaadoor", sum := "94d5d00f2f771d030a12973e520b26059bb3d82e92e2680ea3cb1dc65a03a155", func := "fleuron/fleuronlaw05.WordsNames", spec := "wordsNames", inPlace := ["internal/bytealg.IndexByteString", "internal/bytealg.IndexString"], unfollowed := true, recurses := true, named := ["unicode/utf8.first", "unicode/utf8.acceptRanges", "internal/bytealg.MaxLen"], apart := false, laid := [("unicode/utf8.acceptRanges", laid_unicode_utf8_acceptRanges), ("unicode/utf8.first", laid_unicode_utf8_first)] }
def WordsNamesSaid : Prop := wordsNamesRow.holds Tryd.pinned (OpenSpec.ofChange wordsNamesSpec)

/-- ITS FALSE NEIGHBOUR: 'it returns false'. Refute it at one input. -/
def wordsNamesWrong : ChangeSpec := { name := "wordsNames", fn := fun _ => fun
  | [d1, d2] => { results := [.lit (.bool false)], args := [d1, d2] }
  | _ => none }
def WordsNamesWrongFalsely : Prop := wordsNamesRow.holds Tryd.pinned (OpenSpec.ofChange wordsNamesWrong)

/-- 'fleuronlaw05.WordsNumbers': WHATEVER THE INPUT: true; the input reads as it did. -/
def wordsNumbersSpec : ChangeSpec := { name := "wordsNumbers", fn := fun _ => fun
  | [d1, d2, d3] => { results := [.lit (.bool true)], args := [d1, d2, d3] }
  | _ => none }
def wordsNumbersRow : OpenClaim := { program := "ytccnogdfnikioaadoor", sum := "94d5d00f2f771d030a12973e520b26059bb3d82e92e2680ea3cb1dc65a03a155", func := "fleuron/fleuronlaw05.WordsNumbers", spec := "wordsNumbers", inPlace := ["internal/bytealg.IndexByteString", "internal/bytealg.IndexString"], unfollowed := true, recurses := true, named := ["unicode/utf8.first", "unicode/utf8.acceptRanges", "internal/bytealg.MaxLen"], apart := false, laid := [("unicode/utf8.acceptRanges", laid_unicode_utf8_acceptRanges), ("unicode/utf8.first", laid_unicode_utf8_first)] }
def WordsNumbersSaid : Prop := wordsNumbersRow.holds Tryd.pinned (OpenSpec.ofChange wordsNumbersSpec)

/-- ITS FALSE NEIGHBOUR: 'it returns false'. Refute it at one input. -/
def wordsNumbersWrong : ChangeSpec := { name := "wordsNumbers", fn := fun _ => fun
  | [d1, d2, d3] => { results := [.lit (.bool false)], args := [d1, d2, d3] }
  | _ => none }
def WordsNumbersWrongFalsely : Prop := wordsNumbersRow.holds Tryd.pinned (OpenSpec.ofChange wordsNumbersWrong)

/-- 'fleuronlaw05.WordsKinds': WHATEVER THE INPUT: true; the input reads as it did. -/
def wordsKindsSpec : ChangeSpec := { name := "wordsKinds", fn := fun _ => fun
  | [d] => { results := [.lit (.bool true)], args := [d] }
  | _ => none }
def wordsKindsRow : OpenClaim := { program := "ytccnogdfnikioaadoor", sum := "94d5d00f2f771d030a12973e520b26059bb3d82e92e2680ea3cb1dc65a03a155", func := "fleuron/fleuronlaw05.WordsKinds", spec := "wordsKinds", inPlace := ["internal/bytealg.IndexByteString", "internal/bytealg.IndexString"], unfollowed := true, recurses := true, named := ["unicode/utf8.first", "unicode/utf8.acceptRanges", "internal/bytealg.MaxLen"], apart := false, laid := [("unicode/utf8.acceptRanges", laid_unicode_utf8_acceptRanges), ("unicode/utf8.first", laid_unicode_utf8_first)] }
def WordsKindsSaid : Prop := wordsKindsRow.holds Tryd.pinned (OpenSpec.ofChange wordsKindsSpec)

/-- ITS FALSE NEIGHBOUR: 'it returns false'. Refute it at one input. -/
def wordsKindsWrong : ChangeSpec := { name := "wordsKinds", fn := fun _ => fun
  | [d] => { results := [.lit (.bool false)], args := [d] }
  | _ => none }
def WordsKindsWrongFalsely : Prop := wordsKindsRow.holds Tryd.pinned (OpenSpec.ofChange wordsKindsWrong)

/- THE SECOND FORM. 'bulk': how many values and letters a reading holds, each counted each time it is reached (what is shared counts as often as it is met; a slice's spare places count too). A statement '..UptoSaid' is the law's where the arguments, and the package variables that the reading takes, are together of bulk at most 1048576: NARROWER than '..Said'. Prove '..Said' where nothing that the law and all that it calls make is longer than what came in: it says more and counts as full. Else prove '..UptoSaid'. A law counts once. -/
mutual
def uptoBulk {H : Type} : DataW H → Nat
  | .lit (.string bytes) => bytes.length + 1
  | .lit _ => 1
  | .nil => 1
  | .ptr d => uptoBulk d + 1
  | .slice elems spare => uptoBulkAll elems + uptoBulkAll spare + 1
  | .agg parts => uptoBulkAll parts + 1
  | .iface _ d => uptoBulk d + 1
  | .map entries => uptoBulkEntries entries + 1
  | .held _ => 1
def uptoBulkAll {H : Type} : List (DataW H) → Nat
  | [] => 0
  | d :: r => uptoBulk d + uptoBulkAll r
def uptoBulkEntries {H : Type} : List (Lit × DataW H) → Nat
  | [] => 0
  | x :: r => uptoBulkEntry x + uptoBulkEntries r
def uptoBulkEntry {H : Type} : Lit × DataW H → Nat
  | (.string bytes, d) => bytes.length + uptoBulk d + 1
  | (_, d) => uptoBulk d + 1
 end
def uptoSmall : (H : Type) → List (DataW H) → Bool := fun _ ds => decide (uptoBulkAll ds ≤ 1048576)
def OpenSpec.upto (s : _root_.Go.ChangeSpec) : _root_.Go.OpenSpec := { _root_.Go.OpenSpec.ofChange s with cond := some uptoSmall }

/-- 'fleuronlaw05.WordsAll', WHERE WHAT IT READS IS OF BULK AT MOST 1048576: true; the input reads as it did. -/
def wordsAllUptoRow : OpenClaim := { program := "ytccnogdfnikioaadoor", sum := "94d5d00f2f771d030a12973e520b26059bb3d82e92e2680ea3cb1dc65a03a155", func := "fleuron/fleuronlaw05.WordsAll", spec := "wordsAll", inPlace := ["internal/bytealg.IndexByteString", "internal/bytealg.IndexString"], unfollowed := true, recurses := true, named := ["unicode/utf8.first", "unicode/utf8.acceptRanges", "internal/bytealg.MaxLen"], apart := false, laid := [("unicode/utf8.acceptRanges", laid_unicode_utf8_acceptRanges), ("unicode/utf8.first", laid_unicode_utf8_first)], narrowed := true }
def WordsAllUptoSaid : Prop := wordsAllUptoRow.holds Tryd.pinned (OpenSpec.upto wordsAllSpec)

/-- 'fleuronlaw05.WordsSets', WHERE WHAT IT READS IS OF BULK AT MOST 1048576: true; the input reads as it did. -/
def wordsSetsUptoRow : OpenClaim := { program := "ytccnogdfnikioaadoor", sum := "94d5d00f2f771d030a12973e520b26059bb3d82e92e2680ea3cb1dc65a03a155", func := "fleuron/fleuronlaw05.WordsSets", spec := "wordsSets", inPlace := ["internal/bytealg.IndexByteString", "internal/bytealg.IndexString"], unfollowed := true, recurses := true, named := ["unicode/utf8.first", "unicode/utf8.acceptRanges", "internal/bytealg.MaxLen"], apart := false, laid := [("unicode/utf8.acceptRanges", laid_unicode_utf8_acceptRanges), ("unicode/utf8.first", laid_unicode_utf8_first)], narrowed := true }
def WordsSetsUptoSaid : Prop := wordsSetsUptoRow.holds Tryd.pinned (OpenSpec.upto wordsSetsSpec)

/-- 'fleuronlaw05.WordsBack', WHERE WHAT IT READS IS OF BULK AT MOST 1048576: true; the input reads as it did. -/
def wordsBackUptoRow : OpenClaim := { program := "ytccnogdfnikioaadoor", sum := "94d5d00f2f771d030a12973e520b26059bb3d82e92e2680ea3cb1dc65a03a155", func := "fleuron/fleuronlaw05.WordsBack", spec := "wordsBack", inPlace := ["internal/bytealg.IndexByteString", "internal/bytealg.IndexString"], unfollowed := true, recurses := true, named := ["unicode/utf8.first", "unicode/utf8.acceptRanges", "internal/bytealg.MaxLen"], apart := false, laid := [("unicode/utf8.acceptRanges", laid_unicode_utf8_acceptRanges), ("unicode/utf8.first", laid_unicode_utf8_first)], narrowed := true }
def WordsBackUptoSaid : Prop := wordsBackUptoRow.holds Tryd.pinned (OpenSpec.upto wordsBackSpec)

/-- 'fleuronlaw05.WordsPlaces', WHERE WHAT IT READS IS OF BULK AT MOST 1048576: true; the input reads as it did. -/
def wordsPlacesUptoRow : OpenClaim := { program := "ytccnogdfnikioaadoor", sum := "94d5d00f2f771d030a12973e520b26059bb3d82e92e2680ea3cb1dc65a03a155", func := "fleuron/fleuronlaw05.WordsPlaces", spec := "wordsPlaces", inPlace := ["internal/bytealg.IndexByteString", "internal/bytealg.IndexString"], unfollowed := true, recurses := true, named := ["unicode/utf8.first", "unicode/utf8.acceptRanges", "internal/bytealg.MaxLen"], apart := false, laid := [("unicode/utf8.acceptRanges", laid_unicode_utf8_acceptRanges), ("unicode/utf8.first", laid_unicode_utf8_first)], narrowed := true }
def WordsPlacesUptoSaid : Prop := wordsPlacesUptoRow.holds Tryd.pinned (OpenSpec.upto wordsPlacesSpec)

/-- 'fleuronlaw05.WordsNotes', WHERE WHAT IT READS IS OF BULK AT MOST 1048576: true; the input reads as it did. -/
def wordsNotesUptoRow : OpenClaim := { program := "ytccnogdfnikioaadoor", sum := "94d5d00f2f771d030a12973e520b26059bb3d82e92e2680ea3cb1dc65a03a155", func := "fleuron/fleuronlaw05.WordsNotes", spec := "wordsNotes", inPlace := ["internal/bytealg.IndexByteString", "internal/bytealg.IndexString"], unfollowed := true, recurses := true, named := ["unicode/utf8.first", "unicode/utf8.acceptRanges", "internal/bytealg.MaxLen"], apart := false, laid := [("unicode/utf8.acceptRanges", laid_unicode_utf8_acceptRanges), ("unicode/utf8.first", laid_unicode_utf8_first)], narrowed := true }
def WordsNotesUptoSaid : Prop := wordsNotesUptoRow.holds Tryd.pinned (OpenSpec.upto wordsNotesSpec)

/-- 'fleuronlaw05.WordsRows', WHERE WHAT IT READS IS OF BULK AT MOST 1048576: true; the input reads as it did. -/
def wordsRowsUptoRow : OpenClaim := { program := "ytccnogdfnikioaadoor", sum := "94d5d00f2f771d030a12973e520b26059bb3d82e92e2680ea3cb1dc65a03a155", func := "fleuron/fleuronlaw05.WordsRows", spec := "wordsRows", inPlace := ["internal/bytealg.IndexByteString", "internal/bytealg.IndexString"], unfollowed := true, recurses := true, named := ["unicode/utf8.first", "unicode/utf8.acceptRanges", "internal/bytealg.MaxLen"], apart := false, laid := [("unicode/utf8.acceptRanges", laid_unicode_utf8_acceptRanges), ("unicode/utf8.first", laid_unicode_utf8_first)], narrowed := true }
def WordsRowsUptoSaid : Prop := wordsRowsUptoRow.holds Tryd.pinned (OpenSpec.upto wordsRowsSpec)

/-- 'fleuronlaw05.WordsNames', WHERE WHAT IT READS IS OF BULK AT MOST 1048576: true; the input reads as it did. -/
def wordsNamesUptoRow : OpenClaim := { program := "ytccnogdfnikioaadoor", sum := "94d5d00f2f771d030a12973e520b26059bb3d82e92e2680ea3cb1dc65a03a155", func := "fleuron/fleuronlaw05.WordsNames", spec := "wordsNames", inPlace := ["internal/bytealg.IndexByteString", "internal/bytealg.IndexString"], unfollowed := true, recurses := true, named := ["unicode/utf8.first", "unicode/utf8.acceptRanges", "internal/bytealg.MaxLen"], apart := false, laid := [("unicode/utf8.acceptRanges", laid_unicode_utf8_acceptRanges), ("unicode/utf8.first", laid_unicode_utf8_first)], narrowed := true }
def WordsNamesUptoSaid : Prop := wordsNamesUptoRow.holds Tryd.pinned (OpenSpec.upto wordsNamesSpec)

/-- 'fleuronlaw05.WordsNumbers', WHERE WHAT IT READS IS OF BULK AT MOST 1048576: true; the input reads as it did. -/
def wordsNumbersUptoRow : OpenClaim := { program := "ytccnogdfnikioaadoor", sum := "94d5d00f2f771d030a12973e520b26059bb3d82e92e2680ea3cb1dc65a03a155", func := "fleuron/fleuronlaw05.WordsNumbers", spec := "wordsNumbers", inPlace := ["internal/bytealg.IndexByteString", "internal/bytealg.IndexString"], unfollowed := true, recurses := true, named := ["unicode/utf8.first", "unicode/utf8.acceptRanges", "internal/bytealg.MaxLen"], apart := false, laid := [("unicode/utf8.acceptRanges", laid_unicode_utf8_acceptRanges), ("unicode/utf8.first", laid_unicode_utf8_first)], narrowed := true }
def WordsNumbersUptoSaid : Prop := wordsNumbersUptoRow.holds Tryd.pinned (OpenSpec.upto wordsNumbersSpec)

/-- 'fleuronlaw05.WordsKinds', WHERE WHAT IT READS IS OF BULK AT MOST 1048576: true; the input reads as it did. -/
def wordsKindsUptoRow : OpenClaim := { program := "ytccnogdfnikioaadoor", sum := "94d5d00f2f771d030a12973e520b26059bb3d82e92e2680ea3cb1dc65a03a155", func := "fleuron/fleuronlaw05.WordsKinds", spec := "wordsKinds", inPlace := ["internal/bytealg.IndexByteString", "internal/bytealg.IndexString"], unfollowed := true, recurses := true, named := ["unicode/utf8.first", "unicode/utf8.acceptRanges", "internal/bytealg.MaxLen"], apart := false, laid := [("unicode/utf8.acceptRanges", laid_unicode_utf8_acceptRanges), ("unicode/utf8.first", laid_unicode_utf8_first)], narrowed := true }
def WordsKindsUptoSaid : Prop := wordsKindsUptoRow.holds Tryd.pinned (OpenSpec.upto wordsKindsSpec)

end Rows
end Go.Proofs.YtccnogdfnikioaaDoor
