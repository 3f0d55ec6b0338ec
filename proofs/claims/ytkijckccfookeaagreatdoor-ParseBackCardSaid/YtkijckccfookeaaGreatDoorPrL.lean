/- Lemmas. -/
import Derived.Test.YtkijckccfookeaaGreatDoorV18
set_option linter.unusedVariables false
set_option linter.unusedSimpArgs false
set_option maxRecDepth 100000
set_option maxHeartbeats 32000000
namespace Go.Proofs.YtkijckccfookeaaGreatDoor
open Go.RowKit
theorem MB (p:Call):1<=(iK p).length:=by have:=fA p.at';unfold iK;rw[az];omega
theorem MF (r:aom):1<=(gX r).length:=by have:=fA r.x;unfold gX;simp only[az];omega
theorem VZ (w:World)(g:Lookup)(A2:Option Addr)(d2:Nat)(i0:I64 g.kind)(h2:Sl an7 6 w (Lw w) A2 g.rules)(hlen:(fP g).length<=100000000000000):
  Calls Tryz.prog 101 #[.agg #[.int .i64 g.kind,.bool g.aol,.slice A2 g.rules.length d2]] w fun e w'=>e= .returned (.string ⟨(fP g).toArray⟩)/\Below w.heap.size w w':=by
 obtain⟨kind,PI,rules⟩:=g;have hgl:fP ⟨kind,PI,rules⟩=ai kind++wO PI++ai (rules.length:Int)++rules.flatMap gX:=by simp[fP,Gm]
 rw[hgl] at hlen ⊢;clear hgl;simp only[az] at hlen;simp only at i0 h2 ⊢;have n2:I64 (rules.length:Int):=kV gX MF rules (by omega);have ln2:rules.length<=100000000000000:=nt (eY gX MF rules) (by omega);have H2:=hd0 h2;have HD0:=hd0 (fun w'=>aG w' _ i0);have HD1:=hd0 (fun w'=>aG w' _ n2);have HY:=hd0 (fun w'=>OX w' PI);clear h2 i0 n2;generalize ai kind=D0 at*
 generalize wO PI=Y at*
 generalize ai (rules.length:Int)=D1 at*
 go_enter Tryz.func101,Tryz.ntmps101
 go_wp2_with fail
 obtain⟨W0,hW0⟩:∃W0,w.alloc (.cells #[.int .i64 kind,.bool PI,.slice A2 rules.length d2] 72)=W0:=⟨_,rfl⟩
 rw[hW0];have HW:Hid (Below w.heap.size w W0):=by rw[<-hW0];exact hd0 ((aqk _ _).alloc (ag _) _)
 have HK:Hid (Bk W0 w.heap.size 72 #[.int .i64 kind,.bool PI,.slice A2 rules.length d2]):=by rw[<-hW0];exact hd0 (Bk.new _ _ _)
 have z0:w.heap.size<W0.heap.size:=HK.out.lt;clear hW0;replace H2:=hd0 (H2.out.lw an7.ok HW.out);have x0:∀xw:WIn (fun v=>Below W0.heap.size W0 v),xw.w.cell? ⟨w.heap.size,0,none⟩=some (.int .i64 kind):=ae (HK.out.cell 0);have x1:∀xw:WIn (fun v=>Below W0.heap.size W0 v),xw.w.cell? ⟨w.heap.size,1,none⟩=some (.bool PI):=ae (HK.out.cell 1);have x2:∀xw:WIn (fun v=>Below W0.heap.size W0 v),xw.w.cell? ⟨w.heap.size,2,none⟩=some (.slice A2 rules.length d2):=ae (HK.out.cell 2);have akl:∀w',(Op.stringOp .add ⟨D0.toArray⟩ ⟨Y.toArray⟩).run Tryz.prog w'= .ok (.string ⟨(D0++Y).toArray⟩) w':=au D0 Y (by omega);have amo:(D0++Y).length<=D0.length+Y.length:=ax _ _;generalize hS49:D0++Y=S49 at*
 have akd:=hd0 hS49.symm;clear hS49;have aj6:∀w',(Op.stringOp .add ⟨S49.toArray⟩ ⟨D1.toArray⟩).run Tryz.prog w'= .ok (.string ⟨(S49++D1).toArray⟩) w':=au S49 D1 (by omega);have am1:(S49++D1).length<=S49.length+D1.length:=ax _ _;generalize hS50:S49++D1=S50 at*
 have aje:=hd0 hS50.symm;clear hS50;have CG:=hd0 (aj (W:=W0) (fun w' _=>HD0.out w'));have Cm:=hd0 (aj (W:=W0) (fun w' _=>HD1.out w'));have Zm:=hd0 (aj (W:=W0) (fun w' _=>HY.out w'));refine aW (fun v=>Below W0.heap.size W0 v) (by kernel_rfl) (by kernel_rfl) ((aqk W0.heap.size W0).drew) ?_;have aU:Nonempty (WIn (fun v=>Below W0.heap.size W0 v)):=⟨⟨_,((aqk W0.heap.size W0).drew)⟩⟩
 repeat(go_big_quiet_step (first|with_reducible exact CG.out _|with_reducible exact Cm.out _|with_reducible exact Zm.out _))
 refine wpQuiet_nil ?_;intro _ hw';obtain⟨xq,hw''⟩:=hw';subst hw'';have yM:Hid (Below W0.heap.size W0 xq.w):=hd0 xq.ok;generalize xq.w=wa at*
 clear x0 x1 x2 CG Cm Zm aU akl aj6;go_wp2_with fail
 go_loopw [3,4] (fun s i wr=>∃k:Nat,k<=rules.length/\i= .int .i64 k/\s= .string ⟨(S50++(rules.take k).flatMap gX).toArray⟩/\Below W0.heap.size W0 wr) (fun _ i _=>rules.length - (intOf i).toNat)
 case atStart=>exact⟨0,nz _,rfl,by simp,yM.out⟩
 case round=>
  obtain⟨rE,rfl⟩:∃x,x=wr:=⟨_,rfl⟩
  obtain⟨k,hk,rfl,rfl,hb⟩:=hrel;have HX:=hd0 hb;have c2:rE.cell? ⟨w.heap.size,2,none⟩=some (.slice A2 rules.length d2):=((af HX.out).1 _ _ z0).trans (HK.out.cell 2);by_cases hlt:k<rules.length
  ·
   obtain⟨b,o,x,B0,e0,B1,e1,B2,e2,B3,e3,B4,e4,rfl,-,hx,q0,q1,q2,q3,q4,q5,i5,h0,h1,h2,h3,h4⟩:=(H2.out.lw an7.ok hb).rule hlt;have hsn:Hid (S50++(rules.take (k+1)).flatMap gX=S50++(rules.take k).flatMap gX++jT x.back++jT x.in'++jT x.ahead++rowB x.out++ai (x.calls.length:Int)++x.calls.flatMap iK++ai x.x):=by show _=_;rw[bg hx.out];simp[gX,CW]
   have hf:=bJ (f:=gX) hx.out;simp only[gX,CW,az,ay,ln] at hf;have hs0:(S50++(rules.take k).flatMap gX).length<=S50.length+((rules.take k).flatMap gX).length:=ax _ _;have n4:I64 (x.calls.length:Int):=kV iK MB x.calls (by omega);have ln4:x.calls.length<=100000000000000:=nt (eY iK MB x.calls) (by omega);have HL0:=hd0 (show(jT x.back).length<=100000000000000 by omega);have HL1:=hd0 (show(jT x.in').length<=100000000000000 by omega);have HL2:=hd0 (show(jT x.ahead).length<=100000000000000 by omega);have qY:=hd0 (show(rowB x.out).length<=100000000000000 by omega);clear hx;go_wp2_with fail
   obtain⟨W2,hW2⟩:∃W2,rE.alloc (.cells #[.slice B0 x.back.length e0,.slice B1 x.in'.length e1,.slice B2 x.ahead.length e2,.slice B3 x.out.length e3,.slice B4 x.calls.length e4,.int .i64 x.x] 76)=W2:=⟨_,rfl⟩
   rw[hW2];have Ud:Hid (Below rE.heap.size rE W2):=by rw[<-hW2];exact hd0 ((aqk _ _).alloc (ag _) _)
   have HW2:Hid (Below W0.heap.size W0 W2):=hd0 (HX.out.trans (Ud.out.mono HX.out.size));have fC:Hid (Bk W2 rE.heap.size 76 #[.slice B0 x.back.length e0,.slice B1 x.in'.length e1,.slice B2 x.ahead.length e2,.slice B3 x.out.length e3,.slice B4 x.calls.length e4,.int .i64 x.x]):=by rw[<-hW2];exact hd0 (Bk.new _ _ _)
   have z2:rE.heap.size<W2.heap.size:=fC.out.lt;clear hW2;have K0:=hd0 (h0.lw anN.ok Ud.out);have K1:=hd0 (h1.lw anN.ok Ud.out);have K2:=hd0 (h2.lw anN.ok Ud.out);have K3:=hd0 (h3.lw anO.ok Ud.out);have K4:=hd0 (h4.lw aov.ok Ud.out);have I5:=hd0 i5;clear h0 h1 h2 h3 h4 i5 hb q0 q1 q2 q3 q4 q5;have x0:∀xw:WIn (fun v=>Below W2.heap.size W2 v),xw.w.cell? ⟨rE.heap.size,0,none⟩=some (.slice B0 x.back.length e0):=ae (fC.out.cell 0);have x1:∀xw:WIn (fun v=>Below W2.heap.size W2 v),xw.w.cell? ⟨rE.heap.size,1,none⟩=some (.slice B1 x.in'.length e1):=ae (fC.out.cell 1);have x2:∀xw:WIn (fun v=>Below W2.heap.size W2 v),xw.w.cell? ⟨rE.heap.size,2,none⟩=some (.slice B2 x.ahead.length e2):=ae (fC.out.cell 2);have x3:∀xw:WIn (fun v=>Below W2.heap.size W2 v),xw.w.cell? ⟨rE.heap.size,3,none⟩=some (.slice B3 x.out.length e3):=ae (fC.out.cell 3);have x4:∀xw:WIn (fun v=>Below W2.heap.size W2 v),xw.w.cell? ⟨rE.heap.size,4,none⟩=some (.slice B4 x.calls.length e4):=ae (fC.out.cell 4);have jL:=hd0 (aj (W:=W2) (fun w' hw'=>Fp w' B0 e0 x.back (K0.out.lw anN.ok hw') HL0.out));have HA1:=hd0 (aj (W:=W2) (fun w' hw'=>Fp w' B1 e1 x.in' (K1.out.lw anN.ok hw') HL1.out));have HA2:=hd0 (aj (W:=W2) (fun w' hw'=>Fp w' B2 e2 x.ahead (K2.out.lw anN.ok hw') HL2.out));have uX:=hd0 (aj (W:=W2) (fun w' hw'=>yJ w' B3 e3 x.out (K3.out.lw anO.ok hw') qY.out));have HA4:=hd0 (aj (W:=W2) (fun w' _=>aG w' (x.calls.length) n4));have YS:=hd0 (fun w'=>aG w' x.x I5.out);clear n4 HL0 HL1 HL2 qY;generalize S50++(rules.take k).flatMap gX=S53 at*
   generalize jT x.back=E0 at*
   generalize jT x.in'=E1 at*
   generalize jT x.ahead=E2 at*
   generalize rowB x.out=E3 at*
   generalize ai (x.calls.length:Int)=E4 at*
   generalize ai x.x=E6 at*
   have akU:∀w',(Op.stringOp .add ⟨S53.toArray⟩ ⟨E0.toArray⟩).run Tryz.prog w'= .ok (.string ⟨(S53++E0).toArray⟩) w':=au S53 E0 (by omega);have amy:(S53++E0).length<=S53.length+E0.length:=ax _ _;generalize hS54:S53++E0=S54 at*
   have akc:=hd0 hS54.symm;clear hS54;have aiJ:∀w',(Op.stringOp .add ⟨S54.toArray⟩ ⟨E1.toArray⟩).run Tryz.prog w'= .ok (.string ⟨(S54++E1).toArray⟩) w':=au S54 E1 (by omega);have amR:(S54++E1).length<=S54.length+E1.length:=ax _ _;generalize hS55:S54++E1=S55 at*
   have ajD:=hd0 hS55.symm;clear hS55;have ajv:∀w',(Op.stringOp .add ⟨S55.toArray⟩ ⟨E2.toArray⟩).run Tryz.prog w'= .ok (.string ⟨(S55++E2).toArray⟩) w':=au S55 E2 (by omega);have am9:(S55++E2).length<=S55.length+E2.length:=ax _ _;generalize hS56:S55++E2=S56 at*
   have aki:=hd0 hS56.symm;clear hS56;have aiu:∀w',(Op.stringOp .add ⟨S56.toArray⟩ ⟨E3.toArray⟩).run Tryz.prog w'= .ok (.string ⟨(S56++E3).toArray⟩) w':=au S56 E3 (by omega);have al4:(S56++E3).length<=S56.length+E3.length:=ax _ _;generalize hS57:S56++E3=S57 at*
   have ajk:=hd0 hS57.symm;clear hS57;have akT:∀w',(Op.stringOp .add ⟨S57.toArray⟩ ⟨E4.toArray⟩).run Tryz.prog w'= .ok (.string ⟨(S57++E4).toArray⟩) w':=au S57 E4 (by omega);have amw:(S57++E4).length<=S57.length+E4.length:=ax _ _;generalize hS58:S57++E4=S58 at*
   have aiR:=hd0 hS58.symm;clear hS58;refine aW (fun v=>Below W2.heap.size W2 v) (by kernel_rfl) (by kernel_rfl) ((aqk W2.heap.size W2).drew) ?_;have aU:Nonempty (WIn (fun v=>Below W2.heap.size W2 v)):=⟨⟨_,((aqk W2.heap.size W2).drew)⟩⟩
   repeat(go_big_quiet_step (first|with_reducible exact jL.out _|with_reducible exact HA1.out _|with_reducible exact HA2.out _|with_reducible exact uX.out _|with_reducible exact HA4.out _))
   refine wpQuiet_nil ?_;intro _ hw';obtain⟨xq,hw''⟩:=hw';subst hw'';have XH:Hid (Below W2.heap.size W2 xq.w):=hd0 xq.ok;generalize xq.w=wb at*
   clear x0 x1 x2 x3 x4 jL HA1 HA2 uX HA4 aU akU aiJ ajv aiu akT;go_wp2_with fail
   go_loopw [3,6] (fun s i wr=>∃j:Nat,j<=x.calls.length/\i= .int .i64 j/\s= .string ⟨(S58++(x.calls.take j).flatMap iK).toArray⟩/\Below W2.heap.size W2 wr) (fun _ i _=>x.calls.length - (intOf i).toNat)
   case atStart=>exact⟨0,nz _,rfl,by simp,XH.out⟩
   case round=>
    obtain⟨wi,rfl⟩:∃x,x=wr:=⟨_,rfl⟩
    obtain⟨j,hj,rfl,rfl,hb⟩:=hrel;have fQ:=hd0 hb;have c4:wi.cell? ⟨rE.heap.size,4,none⟩=some (.slice B4 x.calls.length e4):=((af fQ.out).1 _ _ z2).trans (fC.out.cell 4);by_cases hltj:j<x.calls.length
    ·
     obtain⟨b2,o2,y,rfl,-,hy,u0,u1,j0,j1⟩:=(K4.out.lw aov.ok hb).call hltj;have sK:Hid (S58++(x.calls.take (j+1)).flatMap iK=S58++(x.calls.take j).flatMap iK++ai y.at'++ai y.lookup):=by show _=_;rw[bg hy.out];simp[iK]
     have hf2:=bJ (f:=iK) hy.out;simp only[iK,az] at hf2;have hs2:(S58++(x.calls.take j).flatMap iK).length<=S58.length+((x.calls.take j).flatMap iK).length:=ax _ _;clear hy;have xc:∀xw:WIn (fun v=>Below wi.heap.size wi v),xw.w.cell? ⟨rE.heap.size,4,none⟩=some (.slice (some ⟨b2,o2,none⟩) x.calls.length e4):=ae c4;have xu0:∀xw:WIn (fun v=>Below wi.heap.size wi v),xw.w.cell? ⟨b2,o2+j*2,none⟩=some (.int .i64 y.at'):=ae u0;have xu1:∀xw:WIn (fun v=>Below wi.heap.size wi v),xw.w.cell? ⟨b2,o2+j*2+1,none⟩=some (.int .i64 y.lookup):=ae u1;have HB0:=hd0 (aj (W:=wi) (fun w' _=>aG w' (y.at') j0));have HB1:=hd0 (aj (W:=wi) (fun w' _=>aG w' (y.lookup) j1));generalize S58++(x.calls.take j).flatMap iK=S59 at*
     generalize ai y.at'=G0 at*
     generalize ai y.lookup=G1 at*
     have amG:∀w',(Op.stringOp .add ⟨S59.toArray⟩ ⟨G0.toArray⟩).run Tryz.prog w'= .ok (.string ⟨(S59++G0).toArray⟩) w':=au S59 G0 (by omega);have amE:(S59++G0).length<=S59.length+G0.length:=ax _ _;generalize hS60:S59++G0=S60 at*
     have ajY:=hd0 hS60.symm;clear hS60;have amk:∀w',(Op.stringOp .add ⟨S60.toArray⟩ ⟨G1.toArray⟩).run Tryz.prog w'= .ok (.string ⟨(S60++G1).toArray⟩) w':=au S60 G1 (by omega);have anf:(S60++G1).length<=S60.length+G1.length:=ax _ _;generalize hS61:S60++G1=S61 at*
     have akK:=hd0 hS61.symm;clear hS61;clear hf2 hs2 hb u0 u1 j0 j1;go_wp2_with fail
     refine aW (fun v=>Below wi.heap.size wi v) (by kernel_rfl) (by kernel_rfl) ((aqk wi.heap.size wi).drew) ?_;have aU:Nonempty (WIn (fun v=>Below wi.heap.size wi v)):=⟨⟨_,((aqk wi.heap.size wi).drew)⟩⟩
     repeat(go_big_quiet_step (first|with_reducible exact HB0.out _|with_reducible exact HB1.out _))
     refine wpQuiet_nil ?_;intro _ hw';obtain⟨xq,hw''⟩:=hw';subst hw'';have dY:Hid (Below W2.heap.size W2 xq.w):=hd0 (fQ.out.trans (xq.ok.mono fQ.out.size));generalize xq.w=wz at*
     go_wp2_with fail
     go_roundw
     case rel=>exact⟨j+1,by omega,by simp,by rw[sK.out,akK.out,ajY.out],dY.out⟩
     case measure=>simp[intOf];omega
    obtain rfl:j=x.calls.length:=by omega
    rw[aqr];have alT:(S58++x.calls.flatMap iK).length<=S58.length+(x.calls.flatMap iK).length:=ax _ _;generalize hS62:S58++x.calls.flatMap iK=S62 at*
    have aj2:=hd0 hS62.symm;clear hS62 hb;have c5:wi.cell? ⟨rE.heap.size,5,none⟩=some (.int .i64 x.x):=((af fQ.out).1 _ _ z2).trans (fC.out.cell 5);have amm:∀w',(Op.stringOp .add ⟨S62.toArray⟩ ⟨E6.toArray⟩).run Tryz.prog w'= .ok (.string ⟨(S62++E6).toArray⟩) w':=au S62 E6 (by omega);have amv:(S62++E6).length<=S62.length+E6.length:=ax _ _;generalize hS63:S62++E6=S63 at*
    have ajw:=hd0 hS63.symm;clear hS63;clear hf hs0;go_wp2_with fail
    refine(YS.out _).mono ?_;rintro e wy ⟨rfl,hby⟩;have Hwy:Hid (Below W0.heap.size W0 wy):=hd0 (HW2.out.trans ((fQ.out.mono HW2.out.size).trans (hby.mono (nt HW2.out.size fQ.out.size))));clear hby;go_wp2_with fail
    go_roundw
    case rel=>exact⟨k+1,by omega,by simp,by rw[hsn.out,ajw.out,aj2.out,aiR.out,ajk.out,aki.out,ajD.out,akc.out],Hwy.out⟩
    case measure=>simp[intOf];omega
  obtain rfl:k=rules.length:=by omega
  rw[aqr];have amf:(S50++rules.flatMap gX).length<=S50.length+(rules.flatMap gX).length:=ax _ _;generalize hS64:S50++rules.flatMap gX=S64 at*
  have ai5:=hd0 hS64.symm;clear hS64;go_wp2_with fail
  go_ret
  exact⟨by rw[ai5.out,aje.out,akd.out];rfl,HW.out.trans (HX.out.mono HW.out.size)⟩
end Go.Proofs.YtkijckccfookeaaGreatDoor
