/- Lemmas. -/
import Derived.Test.YtkijckccfookeaaGreatDoorV51
set_option linter.unusedVariables false
set_option linter.unusedSimpArgs false
namespace Go.Proofs.YtkijckccfookeaaGreatDoor
open Go.ChangeShapes Go.WideShapes Go.ChangeAt Go.RowKit
open Go.ChangeMaps (open_string shut_string)
set_option linter.unusedVariables false
theorem aJ {a b:Bool}(ha:a=true)(hb:b=true):(a && b)=true:=by rw[ha,hb];rfl
set_option maxHeartbeats 4000000
theorem Oe:Rows.parseFirstRow.wf (OpenSpec.ofChange Rows.parseFirstSpec)=true:=by kernel_rfl
theorem NQ:laidOutB Tryz.prog=true:=by kernel_rfl
theorem N7:mapsRowed Tryz.prog=true:=by kernel_rfl
theorem NP:Tryz.f8.params.all (Tryz.prog.readableRec ·)=true:=by kernel_rfl
theorem NC:namedTie Tryz.prog Rows.parseFirstRow.named Rows.parseFirstSpec.vars=true:=by kernel_rfl
theorem Na:(Rows.parseFirstRow.stops==[])=true:=by kernel_rfl
theorem MW:(Tryz.prog.stops==[])=true:=by kernel_rfl
theorem Ns:(Rows.parseFirstRow.knobs==[])=true:=by kernel_rfl
theorem NW:(Tryz.prog.stopKnobs==[])=true:=by kernel_rfl
theorem Ji:(Rows.parseFirstRow.inPlace==Tryz.prog.inPlace 8)=true:=by kernel_rfl
theorem J6:(Rows.parseFirstRow.unfollowed==Tryz.prog.unfollowed 8)=true:=by kernel_rfl
theorem Jc:(Rows.parseFirstRow.recurses==Tryz.prog.recurses 8)=true:=by kernel_rfl
theorem JR:(Rows.parseFirstRow.named==Tryz.prog.varsNamed 8)=true:=by kernel_rfl
theorem IM:(Rows.parseFirstRow.maps==(Tryz.f8.params.toList++Rows.parseFirstSpec.plain.varTypes Tryz.prog).any (Tryz.prog.mapsRec ·))=true:=by kernel_rfl
theorem I8:(Rows.parseFirstRow.ifaces==(Tryz.f8.params.toList++Rows.parseFirstSpec.plain.varTypes Tryz.prog).any (Tryz.prog.ifacesRec ·))=true:=by kernel_rfl
theorem Jd:(Rows.parseFirstRow.mapsOut==Tryz.prog.mapsAmong Tryz.f8.resultTypes.toList)=true:=by kernel_rfl
theorem II:(Rows.parseFirstRow.loops==(Tryz.f8.params.toList++Rows.parseFirstSpec.plain.varTypes Tryz.prog).any (Tryz.prog.loopsFrom ·))=true:=by kernel_rfl
theorem IJ:(Rows.parseFirstRow.wideKeys==(Tryz.f8.params.toList++Rows.parseFirstSpec.plain.varTypes Tryz.prog++Tryz.f8.resultTypes.toList).any (Tryz.prog.wideKeysFrom ·))=true:=by kernel_rfl
theorem IG:Rows.parseFirstSpec.vars.all (Tryz.prog.varReadable ·)=true:=by kernel_rfl
theorem Jl:Tryz.f8.resultTypes.all (fun t=>Tryz.prog.readableRec t && decide (t<Tryz.prog.types.size))=true:=by kernel_rfl
theorem JF:(Rows.parseFirstRow.ifacesOut==Tryz.f8.resultTypes.toList.any (Tryz.prog.ifacesRec ·))=true:=by kernel_rfl
theorem Kr:(Rows.parseFirstRow.loopsOut==Tryz.f8.resultTypes.toList.any (Tryz.prog.loopsFrom ·))=true:=by kernel_rfl
theorem IY:(Rows.parseFirstRow.plainKeys==Tryz.prog.plainKeys)=true:=by kernel_rfl
theorem JU:Rows.parseFirstRow.shortTexts.isNone=true:=by kernel_rfl
theorem Jr:Tryz.prog.stopsHeard=true:=by kernel_rfl
theorem Ip:Tryz.prog.mayEnter=true:=by kernel_rfl
theorem Ko:(Rows.parseFirstRow.lifted==Tryz.prog.liftsFinal)=true:=by kernel_rfl
theorem Ic:(Tryz.prog.make==some Rows.parseFirstRow.make)=true:=by kernel_rfl
theorem Jf:(Rows.parseFirstRow.pinned==Rows.parseFirstRow.pinnedBy)=true:=by kernel_rfl
theorem Iu:(Rows.parseFirstRow.veiled==(Tryz.f8.params.toList++Rows.parseFirstSpec.plain.varTypes Tryz.prog++Tryz.f8.resultTypes.toList).any (Tryz.prog.veiledRec ·))=true:=by kernel_rfl
theorem IP:Rows.parseFirstRow.veiledFits Tryz.prog Tryz.f8.params.toList (Tryz.f8.params.toList++Rows.parseFirstSpec.plain.varTypes Tryz.prog++Tryz.f8.resultTypes.toList)=true:=by kernel_rfl
theorem Ee:joinedFacts Tryz.prog 8 Tryz.f8 Rows.parseFirstSpec Rows.parseFirstRow=true:=aJ (aJ (aJ (aJ (aJ (aJ (aJ (aJ (aJ (aJ (aJ (aJ (aJ (aJ (aJ (aJ (aJ (aJ (aJ (aJ (aJ (aJ (aJ (aJ (aJ (aJ (aJ (aJ (aJ (aJ (aJ Oe NQ) N7) NP) NC) Na) MW) Ns) NW) Ji) J6) Jc) JR) IM) I8) Jd) II) IJ) IG) Jl) JF) Kr) IY) JU) Jr) Ip) Ko) Ic) (by kernel_rfl)) Jf) Iu) IP
theorem Gf:Rows.ParseFirstSaid:=
 OpenClaim.holds_of_wide 8 Tryz.f8 rfl rfl rfl rfl rfl rfl rfl ⟨rfl,rfl,rfl,rfl,rfl⟩ rfl rfl rfl rfl rfl (by kernel_rfl) Tryz.func8 Ee
  (of_decide_eq_true (by kernel_rfl)) (by unfold Func.isWrapper;first|(rw[if_pos (by decide+kernel)];kernel_rfl)|(rw[if_neg (by decide+kernel)];exact⟨rfl,rfl⟩))
  (fun os started H enc _=>Eh os started H enc)
end Go.Proofs.YtkijckccfookeaaGreatDoor
