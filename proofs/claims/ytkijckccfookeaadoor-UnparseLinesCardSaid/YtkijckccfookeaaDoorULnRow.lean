/- UnparseLines: for all numbers the law returns true, and its argument reads as it did; the listed tables are tied to the program's text. -/
import Derived.Test.YtkijckccfookeaaDoorW30
set_option linter.unusedVariables false
set_option linter.unusedSimpArgs false
namespace Go.Proofs.YtkijckccfookeaaDoor
open Go.ChangeShapes Go.WideShapes Go.ChangeAt Go.RowKit
open Go.ChangeMaps (open_string shut_string)
set_option linter.unusedVariables false
theorem unparseLines_holds:Rows.UnparseLinesCardSaid:=
 Claim7.holds_tied_plain_at .later [] [.data,.data,.data,.data,.data,.data,.data,.pinned] true (true, "9ee4e859a53d4b8fab20a5c79513140a960b859187cb58a222b4b9a48d551800") false
  qV (fun _ h=>by cases h) (by kernel_rfl) (fun _ h=>by cases h) unparseLines_row_tie rfl ⟨rfl,rfl⟩ (by kernel_rfl) rfl
  (fun f fn hf hfn=>by
   obtain rfl:f=5:=Option.some.inj ((show Tryd.prog.funcNamed "fleuron/fleuronlaw09.UnparseLines" =some 5 by kernel_rfl).symm.trans hf)|>.symm
   obtain rfl:fn=Tryd.f5:=(Option.some.inj (Tryd.func5.symm.trans hfn)).symm;exact⟨by kernel_rfl,fun j t ht=>by
    rw[Tryd.params5] at ht;have hm:t∈[22]:=by simpa using Array.mem_of_getElem? ht
    have hall:([22].all fun u=> !Tryd.prog.wantsStandIn u)=true:=by kernel_rfl
    exact(show Tryd.prog.wantsStandIn t=false by simpa using abB.1 hall t hm)⟩)
  (by kernel_rfl)
#print axioms unparseLines_holds
end Go.Proofs.YtkijckccfookeaaDoor
