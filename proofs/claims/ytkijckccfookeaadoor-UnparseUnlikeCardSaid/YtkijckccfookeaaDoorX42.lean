/- Lemmas. -/
import Derived.Test.YtkijckccfookeaaDoorX41
import Derived.Test.YtkijckccfookeaaDoorCards
import Derived.Test.YtkijckccfookeaaDoorTie
import Derived.LaidMore
import Derived.Lay
set_option linter.unusedVariables false
set_option linter.unusedSimpArgs false
set_option maxRecDepth 100000
set_option maxHeartbeats 32000000
namespace Go.Proofs.YtkijckccfookeaaDoor
section
open Go.ChangeShapes Go.WideShapes Go.ChangeAt Go.RowKit
open Go.ChangeMaps (open_string shut_string)
set_option linter.unusedVariables false
theorem yH:ownKnob Tryd.prog.godebug=none:=by kernel_rfl
theorem jQ:laidOutB Tryd.prog=true:=by kernel_rfl
theorem uS (os:Os)(started:os.Started)(H:Type)(enc:TypeId×Value->H):
  ReturnsInHanded {} Tryd.checked os 3 .any (fun w args=>(Rows.unparseUnlikeSpec.pre enc Tryd.prog Tryd.f3 Rows.unparseUnlikeRow.domain false w args/\laidMetH Tryd.prog Rows.unparseUnlikeRow.laid w)/\sizedMet enc Tryd.prog Tryd.f3 (OpenSpec.ofChange Rows.unparseUnlikeSpec) false w args)
   (Rows.unparseUnlikeSpec.post enc Tryd.prog Tryd.f3 false true false false):=by
 refine returnsInHanded_of_change_and (C:=Tryd.checked) (X:=fun w _=>laidMetH Tryd.prog Rows.unparseUnlikeRow.laid w) (fun _ _ _ hh h=>h.of_heap hh) yH started (by kernel_rfl) Tryd.func3
  (ChangeSpec.witness_shaped (enc:=enc) (C:=Tryd.checked) (os:=os) (X:=fun w _=>laidMetH Tryd.prog Rows.unparseUnlikeRow.laid w) false (World.laidAll Tryd.prog os Rows.unparseUnlikeRow.laid) #[.slice none 0 0,.slice none 0 0,.agg #[.int .i64 0,.int .i64 0,.int .i64 0]] 8 (World.laidAll_os _ _ _)
   (World.shaped_of_ZipB (by kernel_rfl) (by kernel_rfl)) (by kernel_rfl) (by kernel_rfl) (by kernel_rfl)
   (by rw[MakeChecks.laidMetH_plain _ _ _ (by kernel_rfl)];exact laidMet_laidAll _ (by kernel_rfl) (by kernel_rfl))) ?_
 intro W base args ds gs before hval0 hW hcnd _ hL _;have hval:∀(j:Nat) t v,Tryd.f3.params[j]? =some t->args[j]? =some v->Value.okWide Tryd.prog W .any base t v:=hval0;have hW':=hW;obtain⟨p,q,hA0,hV,rfl,hfz,hnd⟩:=hW;have hA:DataW.TrodAll enc Tryd.prog W 0 (fun _=>true) true Tryd.f3.params.toList args.toList ds p:=hA0;rw[Tryd.params3] at hA hval;obtain⟨v0,vs0,d0,ds0,p0,q0,hargs,rfl,rfl,h0,r0⟩:=trodAll_cons hA;obtain⟨v1,vs1,d1,ds1,p1,q1,rfl,rfl,rfl,h1,r1⟩:=trodAll_cons r0;obtain⟨v2,vs2,d2,ds2,p2,q2,rfl,rfl,rfl,h2,r2⟩:=trodAll_cons r1;obtain⟨rfl,rfl,rfl⟩:=trodAll_nil r2;obtain rfl:args= #[v0,v1,v2]:=by cases args;simp_all
 obtain⟨rfl,rfl⟩:=trodVars_none hV;have k0:=h0;have lt0:∀x∈p0,x.block<W.heap.size:=by obtain⟨m,hm⟩:=k0;exact DataW.trod_lt m _ _ _ hm
 have k1:=h1;have lt1:∀x∈p1,x.block<W.heap.size:=by obtain⟨m,hm⟩:=k1;exact DataW.trod_lt m _ _ _ hm
 have k2:=h2;have lt2:∀x∈p2,x.block<W.heap.size:=by obtain⟨m,hm⟩:=k2;exact DataW.trod_lt m _ _ _ hm
 obtain⟨A0,n0,c0,zs0,rfl,hc0,hm0,hr0,hi0⟩:=Eg (hval 0 22 v0 rfl rfl) h0;obtain⟨A1,n1,c1,zs1,rfl,hc1,hm1,hr1,hi1⟩:=Eg (hval 1 22 v1 rfl rfl) h1;obtain⟨a2,b2,c2,rfl,rfl,rfl,w2,x2,y2⟩:=QL ZV Tryd.underlying3 (hval 2 23 v2 rfl rfl) h2;clear hA0 hval0;have hL':laidMetH Tryd.prog Rows.unparseUnlikeRow.laid W:=hL;rw[MakeChecks.laidMetH_plain _ _ _ (by kernel_rfl)] at hL';refine(zn W A0 n0 c0 zs0 hc0 hr0 hi0 A1 n1 c1 zs1 hc1 hr1 hi1 a2 b2 c2 w2 x2 y2 (OQ hL' (by simp[Rows.unparseUnlikeRow]) (by simp[Rows.unparseUnlikeRow]) (by simp[Rows.unparseUnlikeRow]) (by simp[Rows.unparseUnlikeRow])) (Oc hL' (by simp[Rows.unparseUnlikeRow]))).mono fun e W' ⟨he,bel⟩=> ?_
 subst he;exact⟨_,rfl,_,_,_,[],_,[],hW',trodAll_mk1 (shut_bool Tryd.underlying4 _),(trodAll_cons_mk (Below.trod jQ (by kernel_rfl) (of_decide_eq_true (by kernel_rfl)) k0 bel lt0) (trodAll_cons_mk (Below.trod jQ (by kernel_rfl) (of_decide_eq_true (by kernel_rfl)) k1 bel lt1) (trodAll_cons_mk (Below.trod jQ (by kernel_rfl) (of_decide_eq_true (by kernel_rfl)) k2 bel lt2) trodAll_mk0))),rfl,bel.frame _,fun h=>by cases h⟩
end
section
open Go.ChangeShapes Go.WideShapes Go.ChangeAt Go.RowKit
open Go.ChangeMaps (open_string shut_string)
set_option linter.unusedVariables false
theorem au {a b:Bool}(ha:a=true)(hb:b=true):(a && b)=true:=by rw[ha,hb];rfl
set_option maxHeartbeats 4000000
theorem zT:Rows.unparseUnlikeRow.wf (OpenSpec.ofChange Rows.unparseUnlikeSpec)=true:=by kernel_rfl
theorem zY:laidOutB Tryd.prog=true:=by kernel_rfl
theorem zJ:mapsRowed Tryd.prog=true:=by kernel_rfl
theorem zK:Tryd.f3.params.all (Tryd.prog.readableRec ·)=true:=by kernel_rfl
theorem zL:namedTie Tryd.prog Rows.unparseUnlikeRow.named Rows.unparseUnlikeSpec.vars=true:=by kernel_rfl
theorem zQ:(Rows.unparseUnlikeRow.stops==[])=true:=by kernel_rfl
theorem zZ:(Tryd.prog.stops==[])=true:=by kernel_rfl
theorem Ad:(Rows.unparseUnlikeRow.knobs==[])=true:=by kernel_rfl
theorem zM:(Tryd.prog.stopKnobs==[])=true:=by kernel_rfl
theorem yK:(Rows.unparseUnlikeRow.inPlace==Tryd.prog.inPlace 3)=true:=by kernel_rfl
theorem yI:(Rows.unparseUnlikeRow.unfollowed==Tryd.prog.unfollowed 3)=true:=by kernel_rfl
theorem yJ:(Rows.unparseUnlikeRow.recurses==Tryd.prog.recurses 3)=true:=by kernel_rfl
theorem yZ:(Rows.unparseUnlikeRow.named==Tryd.prog.varsNamed 3)=true:=by kernel_rfl
theorem yT:(Rows.unparseUnlikeRow.maps==(Tryd.f3.params.toList++Rows.unparseUnlikeSpec.plain.varTypes Tryd.prog).any (Tryd.prog.mapsRec ·))=true:=by kernel_rfl
theorem yN:(Rows.unparseUnlikeRow.ifaces==(Tryd.f3.params.toList++Rows.unparseUnlikeSpec.plain.varTypes Tryd.prog).any (Tryd.prog.ifacesRec ·))=true:=by kernel_rfl
theorem yQ:(Rows.unparseUnlikeRow.mapsOut==Tryd.prog.mapsAmong Tryd.f3.resultTypes.toList)=true:=by kernel_rfl
theorem yO:(Rows.unparseUnlikeRow.loops==(Tryd.f3.params.toList++Rows.unparseUnlikeSpec.plain.varTypes Tryd.prog).any (Tryd.prog.loopsFrom ·))=true:=by kernel_rfl
theorem yS:(Rows.unparseUnlikeRow.wideKeys==(Tryd.f3.params.toList++Rows.unparseUnlikeSpec.plain.varTypes Tryd.prog++Tryd.f3.resultTypes.toList).any (Tryd.prog.wideKeysFrom ·))=true:=by kernel_rfl
theorem zi:Rows.unparseUnlikeSpec.vars.all (Tryd.prog.varReadable ·)=true:=by kernel_rfl
theorem yV:Tryd.f3.resultTypes.all (fun t=>Tryd.prog.readableRec t && decide (t<Tryd.prog.types.size))=true:=by kernel_rfl
theorem zu:(Rows.unparseUnlikeRow.ifacesOut==Tryd.f3.resultTypes.toList.any (Tryd.prog.ifacesRec ·))=true:=by kernel_rfl
theorem yP:(Rows.unparseUnlikeRow.loopsOut==Tryd.f3.resultTypes.toList.any (Tryd.prog.loopsFrom ·))=true:=by kernel_rfl
theorem zh:(Rows.unparseUnlikeRow.plainKeys==Tryd.prog.plainKeys)=true:=by kernel_rfl
theorem zk:Rows.unparseUnlikeRow.shortTexts.isNone=true:=by kernel_rfl
theorem yR:Tryd.prog.stopsHeard=true:=by kernel_rfl
theorem yL:Tryd.prog.mayEnter=true:=by kernel_rfl
theorem yU:(Rows.unparseUnlikeRow.lifted==Tryd.prog.liftsFinal)=true:=by kernel_rfl
theorem yM:(Tryd.prog.make==some Rows.unparseUnlikeRow.make)=true:=by kernel_rfl
theorem zx:(Rows.unparseUnlikeRow.pinned==Rows.unparseUnlikeRow.pinnedBy)=true:=by kernel_rfl
theorem yY:(Rows.unparseUnlikeRow.veiled==(Tryd.f3.params.toList++Rows.unparseUnlikeSpec.plain.varTypes Tryd.prog++Tryd.f3.resultTypes.toList).any (Tryd.prog.veiledRec ·))=true:=by kernel_rfl
theorem yX:Rows.unparseUnlikeRow.veiledFits Tryd.prog Tryd.f3.params.toList (Tryd.f3.params.toList++Rows.unparseUnlikeSpec.plain.varTypes Tryd.prog++Tryd.f3.resultTypes.toList)=true:=by kernel_rfl
theorem vG:joinedFacts Tryd.prog 3 Tryd.f3 Rows.unparseUnlikeSpec Rows.unparseUnlikeRow=true:=au (au (au (au (au (au (au (au (au (au (au (au (au (au (au (au (au (au (au (au (au (au (au (au (au (au (au (au (au (au (au zT zY) zJ) zK) zL) zQ) zZ) Ad) zM) yK) yI) yJ) yZ) yT) yN) yQ) yO) yS) zi) yV) zu) yP) zh) zk) yR) yL) yU) yM) (by kernel_rfl)) zx) yY) yX
theorem xP:Rows.UnparseUnlikeSaid:=
 OpenClaim.holds_of_wide 3 Tryd.f3 rfl rfl rfl rfl rfl rfl rfl ⟨rfl,rfl,rfl,rfl,rfl⟩ rfl rfl rfl rfl rfl (by kernel_rfl) Tryd.func3 vG
  (of_decide_eq_true (by kernel_rfl)) (by unfold Func.isWrapper;first|(rw[if_pos (by decide+kernel)];kernel_rfl)|(rw[if_neg (by decide+kernel)];exact⟨rfl,rfl⟩))
  (fun os started H enc _=>uS os started H enc)
end
end Go.Proofs.YtkijckccfookeaaDoor
