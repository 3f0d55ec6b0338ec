/- Lemmas. -/
import Derived.Test.YtkijckccfookeaaGreatDoorAb
import Derived.Deep.Slices
import Derived.ProofKit
import Derived.OpenShut
import Derived.Test.YtkijckccfookeaaGreatDoorProg
set_option linter.unusedVariables false
set_option linter.unusedSimpArgs false
namespace Go.Proofs.YtkijckccfookeaaGreatDoor
open Go.ChangeShapes Go.WideShapes Go.RowKit Go.WideMaps
theorem acL:ArrKey Tryz.prog 63 3 2:=⟨Tryz.underlying63,by kernel_rfl,by kernel_rfl,by kernel_rfl⟩
theorem aho:ArrKey Tryz.prog 64 5 2:=⟨Tryz.underlying64,by kernel_rfl,by kernel_rfl,by kernel_rfl⟩
section
variable {H:Type} {enc:TypeId×Value->H} {P:Program} {k e:TypeId} {q:IntKind} {W:World} {base:Nat} {sp:Nat->Bool} {held:Bool}
end
end Go.Proofs.YtkijckccfookeaaGreatDoor
