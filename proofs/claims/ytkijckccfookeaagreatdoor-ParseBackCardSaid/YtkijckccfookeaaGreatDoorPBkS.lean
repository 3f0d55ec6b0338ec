/- Lemmas. -/
import Derived.Test.YtkijckccfookeaaGreatDoorV50
set_option linter.unusedVariables false
set_option linter.unusedSimpArgs false
namespace Go.Proofs.YtkijckccfookeaaGreatDoor
open Go.ChangeShapes Go.WideShapes Go.ChangeAt Go.RowKit
open Go.ChangeMaps (open_string shut_string)
set_option linter.unusedVariables false
theorem aQ {a b:Bool}(ha:a=true)(hb:b=true):(a && b)=true:=by rw[ha,hb];rfl
set_option maxHeartbeats 4000000
theorem Qs:Rows.parseBackRow.wf (OpenSpec.ofChange Rows.parseBackSpec)=true:=by kernel_rfl
theorem Pz:laidOutB Tryz.prog=true:=by kernel_rfl
theorem OD:mapsRowed Tryz.prog=true:=by kernel_rfl
theorem OI:Tryz.f5.params.all (Tryz.prog.readableRec ·)=true:=by kernel_rfl
theorem Qo:namedTie Tryz.prog Rows.parseBackRow.named Rows.parseBackSpec.vars=true:=by kernel_rfl
theorem QT:(Rows.parseBackRow.stops==[])=true:=by kernel_rfl
theorem OU:(Tryz.prog.stops==[])=true:=by kernel_rfl
theorem QO:(Rows.parseBackRow.knobs==[])=true:=by kernel_rfl
theorem QD:(Tryz.prog.stopKnobs==[])=true:=by kernel_rfl
theorem NH:(Rows.parseBackRow.inPlace==Tryz.prog.inPlace 5)=true:=by kernel_rfl
theorem NV:(Rows.parseBackRow.unfollowed==Tryz.prog.unfollowed 5)=true:=by kernel_rfl
theorem MM:(Rows.parseBackRow.recurses==Tryz.prog.recurses 5)=true:=by kernel_rfl
theorem MQ:(Rows.parseBackRow.named==Tryz.prog.varsNamed 5)=true:=by kernel_rfl
theorem Nu:(Rows.parseBackRow.maps==(Tryz.f5.params.toList++Rows.parseBackSpec.plain.varTypes Tryz.prog).any (Tryz.prog.mapsRec ·))=true:=by kernel_rfl
theorem Ny:(Rows.parseBackRow.ifaces==(Tryz.f5.params.toList++Rows.parseBackSpec.plain.varTypes Tryz.prog).any (Tryz.prog.ifacesRec ·))=true:=by kernel_rfl
theorem MN:(Rows.parseBackRow.mapsOut==Tryz.prog.mapsAmong Tryz.f5.resultTypes.toList)=true:=by kernel_rfl
theorem NY:(Rows.parseBackRow.loops==(Tryz.f5.params.toList++Rows.parseBackSpec.plain.varTypes Tryz.prog).any (Tryz.prog.loopsFrom ·))=true:=by kernel_rfl
theorem ML:(Rows.parseBackRow.wideKeys==(Tryz.f5.params.toList++Rows.parseBackSpec.plain.varTypes Tryz.prog++Tryz.f5.resultTypes.toList).any (Tryz.prog.wideKeysFrom ·))=true:=by kernel_rfl
theorem NU:Rows.parseBackSpec.vars.all (Tryz.prog.varReadable ·)=true:=by kernel_rfl
theorem NR:Tryz.f5.resultTypes.all (fun t=>Tryz.prog.readableRec t && decide (t<Tryz.prog.types.size))=true:=by kernel_rfl
theorem Oh:(Rows.parseBackRow.ifacesOut==Tryz.f5.resultTypes.toList.any (Tryz.prog.ifacesRec ·))=true:=by kernel_rfl
theorem NL:(Rows.parseBackRow.loopsOut==Tryz.f5.resultTypes.toList.any (Tryz.prog.loopsFrom ·))=true:=by kernel_rfl
theorem NJ:(Rows.parseBackRow.plainKeys==Tryz.prog.plainKeys)=true:=by kernel_rfl
theorem NT:Rows.parseBackRow.shortTexts.isNone=true:=by kernel_rfl
theorem Og:Tryz.prog.stopsHeard=true:=by kernel_rfl
theorem MV:Tryz.prog.mayEnter=true:=by kernel_rfl
theorem MX:(Rows.parseBackRow.lifted==Tryz.prog.liftsFinal)=true:=by kernel_rfl
theorem Oa:(Tryz.prog.make==some Rows.parseBackRow.make)=true:=by kernel_rfl
theorem Nb:(Rows.parseBackRow.pinned==Rows.parseBackRow.pinnedBy)=true:=by kernel_rfl
theorem ND:(Rows.parseBackRow.veiled==(Tryz.f5.params.toList++Rows.parseBackSpec.plain.varTypes Tryz.prog++Tryz.f5.resultTypes.toList).any (Tryz.prog.veiledRec ·))=true:=by kernel_rfl
theorem Nv:Rows.parseBackRow.veiledFits Tryz.prog Tryz.f5.params.toList (Tryz.f5.params.toList++Rows.parseBackSpec.plain.varTypes Tryz.prog++Tryz.f5.resultTypes.toList)=true:=by kernel_rfl
theorem Fe:joinedFacts Tryz.prog 5 Tryz.f5 Rows.parseBackSpec Rows.parseBackRow=true:=aQ (aQ (aQ (aQ (aQ (aQ (aQ (aQ (aQ (aQ (aQ (aQ (aQ (aQ (aQ (aQ (aQ (aQ (aQ (aQ (aQ (aQ (aQ (aQ (aQ (aQ (aQ (aQ (aQ (aQ (aQ Qs Pz) OD) OI) Qo) QT) OU) QO) QD) NH) NV) MM) MQ) Nu) Ny) MN) NY) ML) NU) NR) Oh) NL) NJ) NT) Og) MV) MX) Oa) (by kernel_rfl)) Nb) ND) Nv
theorem Jg:Rows.ParseBackSaid:=
 OpenClaim.holds_of_wide 5 Tryz.f5 rfl rfl rfl rfl rfl rfl rfl ⟨rfl,rfl,rfl,rfl,rfl⟩ rfl rfl rfl rfl rfl (by kernel_rfl) Tryz.func5 Fe
  (of_decide_eq_true (by kernel_rfl)) (by unfold Func.isWrapper;first|(rw[if_pos (by decide+kernel)];kernel_rfl)|(rw[if_neg (by decide+kernel)];exact⟨rfl,rfl⟩))
  (fun os started H enc _=>EE os started H enc)
end Go.Proofs.YtkijckccfookeaaGreatDoor
