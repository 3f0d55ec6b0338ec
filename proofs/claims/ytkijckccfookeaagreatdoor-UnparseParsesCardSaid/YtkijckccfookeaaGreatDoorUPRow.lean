/- UnparseParses: for all numbers the law returns true, and its argument reads as it did; the listed tables are tied to the program's text. -/
import Derived.Test.YtkijckccfookeaaGreatDoorUPS
set_option linter.unusedVariables false
set_option linter.unusedSimpArgs false
namespace Go.Proofs.YtkijckccfookeaaGreatDoor
open Go.ChangeShapes Go.WideShapes Go.ChangeAt Go.RowKit
open Go.ChangeMaps (open_string shut_string)
set_option linter.unusedVariables false
theorem unparseParses_holds:Rows.UnparseParsesCardSaid:=
 Claim7.holds_tied_plain_at .later [] [.data,.data,.data,.data,.data,.data,.data,.data,.data,.data,.pinned] true (true, "30c0179f20ac7107fa5246d486b4f780c19a1953f7d9589a63e1278d1b02a352") false
  Cf (fun _ h=>by cases h) (by kernel_rfl) (fun _ h=>by cases h) unparseParses_row_tie rfl ⟨rfl,rfl⟩ (by kernel_rfl) rfl
  (fun f fn hf hfn=>by
   obtain rfl:f=13:=Option.some.inj ((show Tryz.prog.funcNamed "fleuron/fleuronlaw09.UnparseParses" =some 13 by kernel_rfl).symm.trans hf)|>.symm
   obtain rfl:fn=Tryz.f13:=(Option.some.inj (Tryz.func13.symm.trans hfn)).symm;exact⟨by kernel_rfl,fun j t ht=>by
    rw[Tryz.params13] at ht;have hm:t∈[22]:=by simpa using Array.mem_of_getElem? ht
    have hall:([22].all fun u=> !Tryz.prog.wantsStandIn u)=true:=by kernel_rfl
    exact(show Tryz.prog.wantsStandIn t=false by simpa using an5.1 hall t hm)⟩)
  (by kernel_rfl)
#print axioms unparseParses_holds
end Go.Proofs.YtkijckccfookeaaGreatDoor
