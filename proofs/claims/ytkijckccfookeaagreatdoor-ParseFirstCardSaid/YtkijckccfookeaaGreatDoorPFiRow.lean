/- ParseFirst: for all numbers, two numbers and a text behind the law returns true, and its arguments read as they did; the listed tables are tied to the program's text. -/
import Derived.Test.YtkijckccfookeaaGreatDoorPFiS
set_option linter.unusedVariables false
set_option linter.unusedSimpArgs false
namespace Go.Proofs.YtkijckccfookeaaGreatDoor
open Go.ChangeShapes Go.WideShapes Go.ChangeAt Go.RowKit
open Go.ChangeMaps (open_string shut_string)
set_option linter.unusedVariables false
theorem parseFirst_holds:Rows.ParseFirstCardSaid:=
 Claim7.holds_tied_plain_at .later [] [.data,.data,.data,.data,.pinned] true (true, "30c0179f20ac7107fa5246d486b4f780c19a1953f7d9589a63e1278d1b02a352") false
  Gf (fun _ h=>by cases h) (by kernel_rfl) (fun _ h=>by cases h) parseFirst_row_tie rfl ⟨rfl,rfl⟩ (by kernel_rfl) rfl
  (fun f fn hf hfn=>by
   obtain rfl:f=8:=Option.some.inj ((show Tryz.prog.funcNamed "fleuron/fleuronlaw08.ParseFirst" =some 8 by kernel_rfl).symm.trans hf)|>.symm
   obtain rfl:fn=Tryz.f8:=(Option.some.inj (Tryz.func8.symm.trans hfn)).symm;exact⟨by kernel_rfl,fun j t ht=>by
    rw[Tryz.params8] at ht;have hm:t∈[22,63,9]:=by simpa using Array.mem_of_getElem? ht
    have hall:([22,63,9].all fun u=> !Tryz.prog.wantsStandIn u)=true:=by kernel_rfl
    exact(show Tryz.prog.wantsStandIn t=false by simpa using aqW.1 hall t hm)⟩)
  (by kernel_rfl)
#print axioms parseFirst_holds
end Go.Proofs.YtkijckccfookeaaGreatDoor
