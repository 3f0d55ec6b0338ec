/- UnparseSources: for every source the law returns true, and its argument reads as it did; the listed tables are tied to the program's text. -/
import Derived.Test.YtkijckccfookeaaGreatDoorV36
set_option linter.unusedVariables false
set_option linter.unusedSimpArgs false
namespace Go.Proofs.YtkijckccfookeaaGreatDoor
open Go.ChangeShapes Go.WideShapes Go.ChangeAt Go.RowKit
open Go.ChangeMaps (open_string shut_string)
set_option linter.unusedVariables false
theorem unparseSources_holds:Rows.UnparseSourcesCardSaid:=
 Claim7.holds_tied_plain_at .later [] [.data,.data,.data,.data,.data,.data,.data,.data,.data,.data,.pinned] true (true, "30c0179f20ac7107fa5246d486b4f780c19a1953f7d9589a63e1278d1b02a352") false
  yY (fun _ h=>by cases h) (by kernel_rfl) (fun _ h=>by cases h) unparseSources_row_tie rfl ⟨rfl,rfl⟩ (by kernel_rfl) rfl
  (fun f fn hf hfn=>by
   obtain rfl:f=4:=Option.some.inj ((show Tryz.prog.funcNamed "fleuron/fleuronlaw09.UnparseSources" =some 4 by kernel_rfl).symm.trans hf)|>.symm
   obtain rfl:fn=Tryz.f4:=(Option.some.inj (Tryz.func4.symm.trans hfn)).symm;exact⟨by kernel_rfl,fun j t ht=>by
    rw[Tryz.params4] at ht;have hm:t∈[9]:=by simpa using Array.mem_of_getElem? ht
    have hall:([9].all fun u=> !Tryz.prog.wantsStandIn u)=true:=by kernel_rfl
    exact(show Tryz.prog.wantsStandIn t=false by simpa using akW.1 hall t hm)⟩)
  (by kernel_rfl)
#print axioms unparseSources_holds
end Go.Proofs.YtkijckccfookeaaGreatDoor
