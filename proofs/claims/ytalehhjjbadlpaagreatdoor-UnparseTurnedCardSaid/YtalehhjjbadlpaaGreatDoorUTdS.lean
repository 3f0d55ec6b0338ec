/- Lemmas. -/
import Derived.Test.YtalehhjjbadlpaaGreatDoorUTdL
set_option linter.all false
namespace Go.Proofs.YtalehhjjbadlpaaGreatDoor
open Go.ChangeShapes Go.WideShapes Go.ChangeAt Go.RowKit
open Go.ChangeMaps (open_string shut_string)
theorem ax {a b:Bool}(c:a=true)(d:b=true):(a && b)=true:=by rw[c,d];rfl
set_option maxHeartbeats 4000000
theorem J5:Rows.unparseTurnedRow.wf (OpenSpec.ofChange Rows.unparseTurnedSpec)=true:=by kernel_rfl
theorem J6:laidOutB Tryz.prog=true:=by kernel_rfl
theorem Ko:mapsRowed Tryz.prog=true:=by kernel_rfl
theorem Kq:Tryz.f3.params.all (Tryz.prog.readableRec ·)=true:=by kernel_rfl
theorem Kr:namedTie Tryz.prog Rows.unparseTurnedRow.named Rows.unparseTurnedSpec.vars=true:=by kernel_rfl
theorem Kt:(Rows.unparseTurnedRow.stops==[])=true:=by kernel_rfl
theorem Ku:(Tryz.prog.stops==[])=true:=by kernel_rfl
theorem Kv:(Rows.unparseTurnedRow.knobs==[])=true:=by kernel_rfl
theorem Kw:(Tryz.prog.stopKnobs==[])=true:=by kernel_rfl
theorem Ip:(Rows.unparseTurnedRow.inPlace==Tryz.prog.inPlace 3)=true:=by kernel_rfl
theorem Iq:(Rows.unparseTurnedRow.unfollowed==Tryz.prog.unfollowed 3)=true:=by kernel_rfl
theorem Ir:(Rows.unparseTurnedRow.recurses==Tryz.prog.recurses 3)=true:=by kernel_rfl
theorem Iu:(Rows.unparseTurnedRow.named==Tryz.prog.varsNamed 3)=true:=by kernel_rfl
theorem Iw:(Rows.unparseTurnedRow.maps==(Tryz.f3.params.toList++Rows.unparseTurnedSpec.plain.varTypes Tryz.prog).any (Tryz.prog.mapsRec ·))=true:=by kernel_rfl
theorem Iy:(Rows.unparseTurnedRow.ifaces==(Tryz.f3.params.toList++Rows.unparseTurnedSpec.plain.varTypes Tryz.prog).any (Tryz.prog.ifacesRec ·))=true:=by kernel_rfl
theorem Iz:(Rows.unparseTurnedRow.mapsOut==Tryz.prog.mapsAmong Tryz.f3.resultTypes.toList)=true:=by kernel_rfl
theorem IA:(Rows.unparseTurnedRow.loops==(Tryz.f3.params.toList++Rows.unparseTurnedSpec.plain.varTypes Tryz.prog).any (Tryz.prog.loopsFrom ·))=true:=by kernel_rfl
theorem IC:(Rows.unparseTurnedRow.wideKeys==(Tryz.f3.params.toList++Rows.unparseTurnedSpec.plain.varTypes Tryz.prog++Tryz.f3.resultTypes.toList).any (Tryz.prog.wideKeysFrom ·))=true:=by kernel_rfl
theorem IE:Rows.unparseTurnedSpec.vars.all (Tryz.prog.varReadable ·)=true:=by kernel_rfl
theorem IG:Tryz.f3.resultTypes.all (λt=>Tryz.prog.readableRec t && decide (t<Tryz.prog.types.size))=true:=by kernel_rfl
theorem II:(Rows.unparseTurnedRow.ifacesOut==Tryz.f3.resultTypes.toList.any (Tryz.prog.ifacesRec ·))=true:=by kernel_rfl
theorem IJ:(Rows.unparseTurnedRow.loopsOut==Tryz.f3.resultTypes.toList.any (Tryz.prog.loopsFrom ·))=true:=by kernel_rfl
theorem IK:(Rows.unparseTurnedRow.plainKeys==Tryz.prog.plainKeys)=true:=by kernel_rfl
theorem IL:Rows.unparseTurnedRow.shortTexts.isNone=true:=by kernel_rfl
theorem IM:Tryz.prog.stopsHeard=true:=by kernel_rfl
theorem IP:Tryz.prog.mayEnter=true:=by kernel_rfl
theorem IQ:(Rows.unparseTurnedRow.lifted==Tryz.prog.liftsFinal)=true:=by kernel_rfl
theorem IR:(Tryz.prog.make==some Rows.unparseTurnedRow.make)=true:=by kernel_rfl
theorem IU:(Rows.unparseTurnedRow.pinned==Rows.unparseTurnedRow.pinnedBy)=true:=by kernel_rfl
theorem IV:(Rows.unparseTurnedRow.veiled==(Tryz.f3.params.toList++Rows.unparseTurnedSpec.plain.varTypes Tryz.prog++Tryz.f3.resultTypes.toList).any (Tryz.prog.veiledRec ·))=true:=by kernel_rfl
theorem IW:Rows.unparseTurnedRow.veiledFits Tryz.prog Tryz.f3.params.toList (Tryz.f3.params.toList++Rows.unparseTurnedSpec.plain.varTypes Tryz.prog++Tryz.f3.resultTypes.toList)=true:=by kernel_rfl
theorem Eb:joinedFacts Tryz.prog 3 Tryz.f3 Rows.unparseTurnedSpec Rows.unparseTurnedRow=true:=ax (ax (ax (ax (ax (ax (ax (ax (ax (ax (ax (ax (ax (ax (ax (ax (ax (ax (ax (ax (ax (ax (ax (ax (ax (ax (ax (ax (ax (ax (ax J5 J6) Ko) Kq) Kr) Kt) Ku) Kv) Kw) Ip) Iq) Ir) Iu) Iw) Iy) Iz) IA) IC) IE) IG) II) IJ) IK) IL) IM) IP) IQ) IR) (by kernel_rfl)) IU) IV) IW
theorem GL:Rows.UnparseTurnedSaid:=
 OpenClaim.holds_of_wide 3 Tryz.f3 rfl rfl rfl rfl rfl rfl rfl ⟨rfl,rfl,rfl,rfl,rfl⟩ rfl rfl rfl rfl rfl (by kernel_rfl) Tryz.func3 Eb
  (of_decide_eq_true (by kernel_rfl)) (by unfold Func.isWrapper;first|(rw[if_pos (by decide+kernel)];kernel_rfl)|(rw[if_neg (by decide+kernel)];exact⟨rfl,rfl⟩))
  (λc a H b _=>Ec c a H b)
