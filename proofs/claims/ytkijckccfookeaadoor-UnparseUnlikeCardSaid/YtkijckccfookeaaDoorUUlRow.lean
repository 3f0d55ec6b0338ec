/- fleuronlaw09.UnparseUnlike returns true -/
import Derived.Test.YtkijckccfookeaaDoorX42
set_option linter.unusedVariables false
set_option linter.unusedSimpArgs false
namespace Go.Proofs.YtkijckccfookeaaDoor
open Go.ChangeShapes Go.WideShapes Go.ChangeAt Go.RowKit
open Go.ChangeMaps (open_string shut_string)
set_option linter.unusedVariables false
theorem unparseUnlike_holds:Rows.UnparseUnlikeCardSaid:=
 Claim7.holds_tied_plain_at .later [] [.data,.data,.data,.data,.data,.data] true (true, "9ee4e859a53d4b8fab20a5c79513140a960b859187cb58a222b4b9a48d551800") false
  xP (fun _ h=>by cases h) (by kernel_rfl) (fun _ h=>by cases h) unparseUnlike_row_tie rfl ⟨rfl,rfl⟩ (by kernel_rfl) rfl
  (fun f fn hf hfn=>by
   obtain rfl:f=3:=Option.some.inj ((show Tryd.prog.funcNamed "fleuron/fleuronlaw09.UnparseUnlike" =some 3 by kernel_rfl).symm.trans hf)|>.symm
   obtain rfl:fn=Tryd.f3:=(Option.some.inj (Tryd.func3.symm.trans hfn)).symm;exact⟨by kernel_rfl,fun j t ht=>by
    rw[Tryd.params3] at ht;have hm:t∈[22,22,23]:=by simpa using Array.mem_of_getElem? ht
    have hall:([22,22,23].all fun u=> !Tryd.prog.wantsStandIn u)=true:=by kernel_rfl
    exact(show Tryd.prog.wantsStandIn t=false by simpa using ahc.1 hall t hm)⟩)
  (by kernel_rfl)
#print axioms unparseUnlike_holds
end Go.Proofs.YtkijckccfookeaaDoor
