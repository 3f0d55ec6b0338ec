/- Lemmas. -/
import Derived.Test.YtkijckccfookeaaGreatDoorV52
set_option linter.unusedVariables false
set_option linter.unusedSimpArgs false
namespace Go.Proofs.YtkijckccfookeaaGreatDoor
open Go.ChangeShapes Go.WideShapes Go.ChangeAt Go.RowKit
open Go.ChangeMaps (open_string shut_string)
set_option linter.unusedVariables false
theorem aK {a b:Bool}(ha:a=true)(hb:b=true):(a && b)=true:=by rw[ha,hb];rfl
set_option maxHeartbeats 4000000
theorem NF:Rows.parseLinesRow.wf (OpenSpec.ofChange Rows.parseLinesSpec)=true:=by kernel_rfl
theorem MI:laidOutB Tryz.prog=true:=by kernel_rfl
theorem NM:mapsRowed Tryz.prog=true:=by kernel_rfl
theorem MJ:Tryz.f7.params.all (Tryz.prog.readableRec ·)=true:=by kernel_rfl
theorem MK:namedTie Tryz.prog Rows.parseLinesRow.named Rows.parseLinesSpec.vars=true:=by kernel_rfl
theorem Nq:(Rows.parseLinesRow.stops==[])=true:=by kernel_rfl
theorem NS:(Tryz.prog.stops==[])=true:=by kernel_rfl
theorem Nc:(Rows.parseLinesRow.knobs==[])=true:=by kernel_rfl
theorem NE:(Tryz.prog.stopKnobs==[])=true:=by kernel_rfl
theorem JH:(Rows.parseLinesRow.inPlace==Tryz.prog.inPlace 7)=true:=by kernel_rfl
theorem Jj:(Rows.parseLinesRow.unfollowed==Tryz.prog.unfollowed 7)=true:=by kernel_rfl
theorem JD:(Rows.parseLinesRow.recurses==Tryz.prog.recurses 7)=true:=by kernel_rfl
theorem Kt:(Rows.parseLinesRow.named==Tryz.prog.varsNamed 7)=true:=by kernel_rfl
theorem Jv:(Rows.parseLinesRow.maps==(Tryz.f7.params.toList++Rows.parseLinesSpec.plain.varTypes Tryz.prog).any (Tryz.prog.mapsRec ·))=true:=by kernel_rfl
theorem IC:(Rows.parseLinesRow.ifaces==(Tryz.f7.params.toList++Rows.parseLinesSpec.plain.varTypes Tryz.prog).any (Tryz.prog.ifacesRec ·))=true:=by kernel_rfl
theorem Ii:(Rows.parseLinesRow.mapsOut==Tryz.prog.mapsAmong Tryz.f7.resultTypes.toList)=true:=by kernel_rfl
theorem Jo:(Rows.parseLinesRow.loops==(Tryz.f7.params.toList++Rows.parseLinesSpec.plain.varTypes Tryz.prog).any (Tryz.prog.loopsFrom ·))=true:=by kernel_rfl
theorem J3:(Rows.parseLinesRow.wideKeys==(Tryz.f7.params.toList++Rows.parseLinesSpec.plain.varTypes Tryz.prog++Tryz.f7.resultTypes.toList).any (Tryz.prog.wideKeysFrom ·))=true:=by kernel_rfl
theorem Jy:Rows.parseLinesSpec.vars.all (Tryz.prog.varReadable ·)=true:=by kernel_rfl
theorem JO:Tryz.f7.resultTypes.all (fun t=>Tryz.prog.readableRec t && decide (t<Tryz.prog.types.size))=true:=by kernel_rfl
theorem Js:(Rows.parseLinesRow.ifacesOut==Tryz.f7.resultTypes.toList.any (Tryz.prog.ifacesRec ·))=true:=by kernel_rfl
theorem JY:(Rows.parseLinesRow.loopsOut==Tryz.f7.resultTypes.toList.any (Tryz.prog.loopsFrom ·))=true:=by kernel_rfl
theorem JZ:(Rows.parseLinesRow.plainKeys==Tryz.prog.plainKeys)=true:=by kernel_rfl
theorem I9:Rows.parseLinesRow.shortTexts.isNone=true:=by kernel_rfl
theorem IR:Tryz.prog.stopsHeard=true:=by kernel_rfl
theorem I7:Tryz.prog.mayEnter=true:=by kernel_rfl
theorem JK:(Rows.parseLinesRow.lifted==Tryz.prog.liftsFinal)=true:=by kernel_rfl
theorem Ju:(Tryz.prog.make==some Rows.parseLinesRow.make)=true:=by kernel_rfl
theorem JI:(Rows.parseLinesRow.pinned==Rows.parseLinesRow.pinnedBy)=true:=by kernel_rfl
theorem Ih:(Rows.parseLinesRow.veiled==(Tryz.f7.params.toList++Rows.parseLinesSpec.plain.varTypes Tryz.prog++Tryz.f7.resultTypes.toList).any (Tryz.prog.veiledRec ·))=true:=by kernel_rfl
theorem Je:Rows.parseLinesRow.veiledFits Tryz.prog Tryz.f7.params.toList (Tryz.f7.params.toList++Rows.parseLinesSpec.plain.varTypes Tryz.prog++Tryz.f7.resultTypes.toList)=true:=by kernel_rfl
theorem Ef:joinedFacts Tryz.prog 7 Tryz.f7 Rows.parseLinesSpec Rows.parseLinesRow=true:=aK (aK (aK (aK (aK (aK (aK (aK (aK (aK (aK (aK (aK (aK (aK (aK (aK (aK (aK (aK (aK (aK (aK (aK (aK (aK (aK (aK (aK (aK (aK NF MI) NM) MJ) MK) Nq) NS) Nc) NE) JH) Jj) JD) Kt) Jv) IC) Ii) Jo) J3) Jy) JO) Js) JY) JZ) I9) IR) I7) JK) Ju) (by kernel_rfl)) JI) Ih) Je
theorem FN:Rows.ParseLinesSaid:=
 OpenClaim.holds_of_wide 7 Tryz.f7 rfl rfl rfl rfl rfl rfl rfl ⟨rfl,rfl,rfl,rfl,rfl⟩ rfl rfl rfl rfl rfl (by kernel_rfl) Tryz.func7 Ef
  (of_decide_eq_true (by kernel_rfl)) (by unfold Func.isWrapper;first|(rw[if_pos (by decide+kernel)];kernel_rfl)|(rw[if_neg (by decide+kernel)];exact⟨rfl,rfl⟩))
  (fun os started H enc _=>Ed os started H enc)
end Go.Proofs.YtkijckccfookeaaGreatDoor
