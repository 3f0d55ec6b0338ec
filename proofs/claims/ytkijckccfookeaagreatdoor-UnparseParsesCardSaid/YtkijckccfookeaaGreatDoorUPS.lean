/- Lemmas. -/
import Derived.Test.YtkijckccfookeaaGreatDoorU45
set_option linter.unusedVariables false
set_option linter.unusedSimpArgs false
namespace Go.Proofs.YtkijckccfookeaaGreatDoor
open Go.ChangeShapes Go.WideShapes Go.ChangeAt Go.RowKit
open Go.ChangeMaps (open_string shut_string)
set_option linter.unusedVariables false
theorem au {a b:Bool}(ha:a=true)(hb:b=true):(a && b)=true:=by rw[ha,hb];rfl
set_option maxHeartbeats 4000000
theorem EY:Rows.unparseParsesRow.wf (OpenSpec.ofChange Rows.unparseParsesSpec)=true:=by kernel_rfl
theorem ET:laidOutB Tryz.prog=true:=by kernel_rfl
theorem FX:mapsRowed Tryz.prog=true:=by kernel_rfl
theorem FW:Tryz.f13.params.all (Tryz.prog.readableRec ·)=true:=by kernel_rfl
theorem Gg:namedTie Tryz.prog Rows.unparseParsesRow.named Rows.unparseParsesSpec.vars=true:=by kernel_rfl
theorem EU:(Rows.unparseParsesRow.stops==[])=true:=by kernel_rfl
theorem FV:(Tryz.prog.stops==[])=true:=by kernel_rfl
theorem FZ:(Rows.unparseParsesRow.knobs==[])=true:=by kernel_rfl
theorem FM:(Tryz.prog.stopKnobs==[])=true:=by kernel_rfl
theorem DY:(Rows.unparseParsesRow.inPlace==Tryz.prog.inPlace 13)=true:=by kernel_rfl
theorem DV:(Rows.unparseParsesRow.unfollowed==Tryz.prog.unfollowed 13)=true:=by kernel_rfl
theorem Es:(Rows.unparseParsesRow.recurses==Tryz.prog.recurses 13)=true:=by kernel_rfl
theorem Eh:(Rows.unparseParsesRow.named==Tryz.prog.varsNamed 13)=true:=by kernel_rfl
theorem Et:(Rows.unparseParsesRow.maps==(Tryz.f13.params.toList++Rows.unparseParsesSpec.plain.varTypes Tryz.prog).any (Tryz.prog.mapsRec ·))=true:=by kernel_rfl
theorem Ep:(Rows.unparseParsesRow.ifaces==(Tryz.f13.params.toList++Rows.unparseParsesSpec.plain.varTypes Tryz.prog).any (Tryz.prog.ifacesRec ·))=true:=by kernel_rfl
theorem DU:(Rows.unparseParsesRow.mapsOut==Tryz.prog.mapsAmong Tryz.f13.resultTypes.toList)=true:=by kernel_rfl
theorem Ey:(Rows.unparseParsesRow.loops==(Tryz.f13.params.toList++Rows.unparseParsesSpec.plain.varTypes Tryz.prog).any (Tryz.prog.loopsFrom ·))=true:=by kernel_rfl
theorem Ed:(Rows.unparseParsesRow.wideKeys==(Tryz.f13.params.toList++Rows.unparseParsesSpec.plain.varTypes Tryz.prog++Tryz.f13.resultTypes.toList).any (Tryz.prog.wideKeysFrom ·))=true:=by kernel_rfl
theorem Ea:Rows.unparseParsesSpec.vars.all (Tryz.prog.varReadable ·)=true:=by kernel_rfl
theorem Eb:Tryz.f13.resultTypes.all (fun t=>Tryz.prog.readableRec t && decide (t<Tryz.prog.types.size))=true:=by kernel_rfl
theorem Ec:(Rows.unparseParsesRow.ifacesOut==Tryz.f13.resultTypes.toList.any (Tryz.prog.ifacesRec ·))=true:=by kernel_rfl
theorem DX:(Rows.unparseParsesRow.loopsOut==Tryz.f13.resultTypes.toList.any (Tryz.prog.loopsFrom ·))=true:=by kernel_rfl
theorem En:(Rows.unparseParsesRow.plainKeys==Tryz.prog.plainKeys)=true:=by kernel_rfl
theorem Em:Rows.unparseParsesRow.shortTexts.isNone=true:=by kernel_rfl
theorem Eo:Tryz.prog.stopsHeard=true:=by kernel_rfl
theorem DZ:Tryz.prog.mayEnter=true:=by kernel_rfl
theorem DW:(Rows.unparseParsesRow.lifted==Tryz.prog.liftsFinal)=true:=by kernel_rfl
theorem Ef:(Tryz.prog.make==some Rows.unparseParsesRow.make)=true:=by kernel_rfl
theorem Ej:(Rows.unparseParsesRow.pinned==Rows.unparseParsesRow.pinnedBy)=true:=by kernel_rfl
theorem Eg:(Rows.unparseParsesRow.veiled==(Tryz.f13.params.toList++Rows.unparseParsesSpec.plain.varTypes Tryz.prog++Tryz.f13.resultTypes.toList).any (Tryz.prog.veiledRec ·))=true:=by kernel_rfl
theorem Ee:Rows.unparseParsesRow.veiledFits Tryz.prog Tryz.f13.params.toList (Tryz.f13.params.toList++Rows.unparseParsesSpec.plain.varTypes Tryz.prog++Tryz.f13.resultTypes.toList)=true:=by kernel_rfl
theorem zI:joinedFacts Tryz.prog 13 Tryz.f13 Rows.unparseParsesSpec Rows.unparseParsesRow=true:=au (au (au (au (au (au (au (au (au (au (au (au (au (au (au (au (au (au (au (au (au (au (au (au (au (au (au (au (au (au (au EY ET) FX) FW) Gg) EU) FV) FZ) FM) DY) DV) Es) Eh) Et) Ep) DU) Ey) Ed) Ea) Eb) Ec) DX) En) Em) Eo) DZ) DW) Ef) (by kernel_rfl)) Ej) Eg) Ee
theorem Cf:Rows.UnparseParsesSaid:=
 OpenClaim.holds_of_wide 13 Tryz.f13 rfl rfl rfl rfl rfl rfl rfl ⟨rfl,rfl,rfl,rfl,rfl⟩ rfl rfl rfl rfl rfl (by kernel_rfl) Tryz.func13 zI
  (of_decide_eq_true (by kernel_rfl)) (by unfold Func.isWrapper;first|(rw[if_pos (by decide+kernel)];kernel_rfl)|(rw[if_neg (by decide+kernel)];exact⟨rfl,rfl⟩))
  (fun os started H enc _=>zT os started H enc)
end Go.Proofs.YtkijckccfookeaaGreatDoor
