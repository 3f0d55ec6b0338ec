/- fleuronlaw09.UnparseTurned returns true -/
import Derived.Test.YtalehhjjbadlpaaGreatDoorUTdS
set_option linter.all false
namespace Go.Proofs.YtalehhjjbadlpaaGreatDoor
open Go.ChangeShapes Go.WideShapes Go.ChangeAt Go.RowKit
open Go.ChangeMaps (open_string shut_string)
theorem unparseTurned_holds:Rows.UnparseTurnedCardSaid:=
 Claim7.holds_tied_plain_at .later [] [.data,.data,.data,.data,.data,.data,.data,.data,.data,.data,.pinned] true (true, "7d3f4406625d0d52175a19f5682725bcebf5db2d33b9d6ced795f0a6e6d221e6") false
  GL (λ_ h=>by cases h) (by kernel_rfl) (λ_ h=>by cases h) unparseTurned_row_tie rfl ⟨rfl,rfl⟩ (by kernel_rfl) rfl
  (λf d e b=>by
   obtain rfl:f=3:=Option.some.inj ((show Tryz.prog.funcNamed "fleuron/fleuronlaw09.UnparseTurned" =some 3 by kernel_rfl).symm.trans e)|>.symm
   obtain rfl:d=Tryz.f3:=(Option.some.inj (Tryz.func3.symm.trans b)).symm;exact⟨by kernel_rfl,λj t c=>by
    rw[Tryz.params3]at c;have g:t∈[22,23]:=by simpa using Array.mem_of_getElem? c
    have a:([22,23].all λu=> !Tryz.prog.wantsStandIn u)=true:=by kernel_rfl
    exact(show Tryz.prog.wantsStandIn t=false by simpa using pZ.1 a t g)⟩)
  (by kernel_rfl)
#print axioms unparseTurned_holds
