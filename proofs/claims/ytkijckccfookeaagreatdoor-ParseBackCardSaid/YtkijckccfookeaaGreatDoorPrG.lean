/- Lemmas. -/
import Derived.Test.YtkijckccfookeaaGreatDoorV18
set_option linter.unusedVariables false
set_option linter.unusedSimpArgs false
set_option maxRecDepth 100000
set_option maxHeartbeats 32000000
namespace Go.Proofs.YtkijckccfookeaaGreatDoor
open Go.RowKit
theorem TV (p:Pt):1<=(oU p).length:=by have:=fA p.x;unfold oU;rw[az];omega
theorem KW (p:Part):1<=(iP p).length:=by have:=fA p.anX;unfold iP;rw[az];omega
theorem Md (p:an8):1<=(iJ p).length:=by have:=fA p.kind;unfold iJ;rw[az];omega
theorem O0 (p:Delta):1<=(kz p).length:=by have:=fA p.region;unfold kz;rw[az];omega
theorem Yg (w:World)(g:anP)(A3 A4 A5 A6 A7 A8:Option Addr)(d3 d4 d5 d6 d7 d8:Nat)(i1:I64 g.advance)(h3:Sl PtR 3 w (Lw w) A3 g.points)(h4:Sl anO 1 w (Lw w) A4 g.ends)(h5:Sl aog 3 w (Lw w) A5 g.parts)(h6:Sl an2 4 w (Lw w) A6 g.anchors)(h7:Sl an6 4 w (Lw w) A7 g.deltas)(h8:Sl an5 2 w (Lw w) A8 g.hint)(hlen:(dS g).length<=100000000000000):
  Calls Tryz.prog 100 #[.agg #[.string ⟨g.name.toArray⟩,.int .i64 g.advance,.bool g.mark,.slice A3 g.points.length d3,.slice A4 g.ends.length d4,.slice A5 g.parts.length d5,.slice A6 g.anchors.length d6,.slice A7 g.deltas.length d7,.slice A8 g.hint.length d8]] w fun e w'=>e= .returned (.string ⟨(dS g).toArray⟩)/\Below w.heap.size w w':=by
 obtain⟨nm,adv,mk,pts,ends,parts,bQ,an1,hint⟩:=g;have hgl:dS ⟨nm,adv,mk,pts,ends,parts,bQ,an1,hint⟩=ai (nm.length:Int)++nm++[32]++ai adv++wO mk++ai (pts.length:Int)++pts.flatMap oU++rowB ends++ai (parts.length:Int)++parts.flatMap iP++ai (bQ.length:Int)++bQ.flatMap iJ++ai (an1.length:Int)++an1.flatMap kz++eU hint:=by simp[dS,oN,Vx,Gg,FK,Ou]
 rw[hgl] at hlen ⊢;clear hgl;simp only[az,ay,ln] at hlen;simp only at i1 h3 h4 h5 h6 h7 h8 ⊢;have n0:I64 (nm.length:Int):=⟨by omega,by omega⟩
 have n3:I64 (pts.length:Int):=kV oU TV pts (by omega);have ln3:pts.length<=100000000000000:=nt (eY oU TV pts) (by omega);have n5:I64 (parts.length:Int):=kV iP KW parts (by omega);have ln5:parts.length<=100000000000000:=nt (eY iP KW parts) (by omega);have n6:I64 (bQ.length:Int):=kV iJ Md bQ (by omega);have ln6:bQ.length<=100000000000000:=nt (eY iJ Md bQ) (by omega);have n7:I64 (an1.length:Int):=kV kz O0 an1 (by omega);have ln7:an1.length<=100000000000000:=nt (eY kz O0 an1) (by omega);have H3:=hd0 h3;have H4:=hd0 h4;have H5:=hd0 h5;have H6:=hd0 h6;have H7:=hd0 h7;have H8:=hd0 h8;have HE:=hd0 (show(rowB ends).length<=100000000000000 by omega);have HC:=hd0 (show(eU hint).length<=100000000000000 by omega);have HD0:=hd0 (fun w'=>aG w' _ n0);have HD1:=hd0 (fun w'=>aG w' _ i1);have HD2:=hd0 (fun w'=>aG w' _ n3);have HD3:=hd0 (fun w'=>aG w' _ n5);have HD4:=hd0 (fun w'=>aG w' _ n6);have HD5:=hd0 (fun w'=>aG w' _ n7);have HY:=hd0 (fun w'=>OX w' mk);have HR:=hd0 (fun w' c A (h:Sl anO 1 w' (Lw w') A ends)=>yJ w' A c ends h HE.out);have HP:=hd0 (fun w' c A (h:Sl an5 2 w' (Lw w') A hint)=>Pn w' A c hint h HC.out);clear h3 h4 h5 h6 h7 h8 n0 i1 n3 n5 n6 n7 HE HC;generalize ai (nm.length:Int)=D0 at*
 generalize ai adv=D1 at*
 generalize wO mk=Y at*
 generalize ai (pts.length:Int)=D2 at*
 generalize rowB ends=E at*
 generalize ai (parts.length:Int)=D3 at*
 generalize ai (bQ.length:Int)=D4 at*
 generalize ai (an1.length:Int)=D5 at*
 generalize eU hint=H at*
 go_enter Tryz.func100,Tryz.ntmps100
 go_wp2_with fail
 obtain⟨W0,hW0⟩:∃W0,w.alloc (.cells #[.string ⟨nm.toArray⟩,.int .i64 adv,.bool mk,.slice A3 pts.length d3,.slice A4 ends.length d4,.slice A5 parts.length d5,.slice A6 bQ.length d6,.slice A7 an1.length d7,.slice A8 hint.length d8] 59)=W0:=⟨_,rfl⟩
 rw[hW0];have HW:Hid (Below w.heap.size w W0):=by rw[<-hW0];exact hd0 ((aqk _ _).alloc (ag _) _)
 have HK:Hid (Bk W0 w.heap.size 59 #[.string ⟨nm.toArray⟩,.int .i64 adv,.bool mk,.slice A3 pts.length d3,.slice A4 ends.length d4,.slice A5 parts.length d5,.slice A6 bQ.length d6,.slice A7 an1.length d7,.slice A8 hint.length d8]):=by rw[<-hW0];exact hd0 (Bk.new _ _ _)
 have z0:w.heap.size<W0.heap.size:=HK.out.lt;clear hW0;replace H3:=hd0 (H3.out.lw PtR.ok HW.out);replace H4:=hd0 (H4.out.lw anO.ok HW.out);replace H5:=hd0 (H5.out.lw aog.ok HW.out);replace H6:=hd0 (H6.out.lw an2.ok HW.out);replace H7:=hd0 (H7.out.lw an6.ok HW.out);replace H8:=hd0 (H8.out.lw an5.ok HW.out);have x0:∀xw:WIn (fun v=>Below W0.heap.size W0 v),xw.w.cell? ⟨w.heap.size,0,none⟩=some (.string ⟨nm.toArray⟩):=ae (HK.out.cell 0);have x1:∀xw:WIn (fun v=>Below W0.heap.size W0 v),xw.w.cell? ⟨w.heap.size,1,none⟩=some (.int .i64 adv):=ae (HK.out.cell 1);have x2:∀xw:WIn (fun v=>Below W0.heap.size W0 v),xw.w.cell? ⟨w.heap.size,2,none⟩=some (.bool mk):=ae (HK.out.cell 2);have x3:∀xw:WIn (fun v=>Below W0.heap.size W0 v),xw.w.cell? ⟨w.heap.size,3,none⟩=some (.slice A3 pts.length d3):=ae (HK.out.cell 3);have rS3:∀w',(Op.stringOp .add ⟨D0.toArray⟩ ⟨nm.toArray⟩).run Tryz.prog w'= .ok (.string ⟨(D0++nm).toArray⟩) w':=au D0 nm (by omega);have lS3:(D0++nm).length<=D0.length+nm.length:=ax _ _;generalize hS3:D0++nm=S3 at*
 have HS3:=hd0 hS3.symm;clear hS3;have rS4:∀w',(Op.stringOp .add ⟨S3.toArray⟩ ⟨#[32]⟩).run Tryz.prog w'= .ok (.string ⟨(S3++[32]).toArray⟩) w':=au S3 [32] (by simp only[ay,ln];omega);have lS4:(S3++[32]).length<=S3.length+1:=ax _ _;generalize hS4:S3++[32]=S4 at*
 have HS4:=hd0 hS4.symm;clear hS4;have rS5:∀w',(Op.stringOp .add ⟨S4.toArray⟩ ⟨D1.toArray⟩).run Tryz.prog w'= .ok (.string ⟨(S4++D1).toArray⟩) w':=au S4 D1 (by omega);have lS5:(S4++D1).length<=S4.length+D1.length:=ax _ _;generalize hS5:S4++D1=S5 at*
 have HS5:=hd0 hS5.symm;clear hS5;have rS6:∀w',(Op.stringOp .add ⟨S5.toArray⟩ ⟨Y.toArray⟩).run Tryz.prog w'= .ok (.string ⟨(S5++Y).toArray⟩) w':=au S5 Y (by omega);have lS6:(S5++Y).length<=S5.length+Y.length:=ax _ _;generalize hS6:S5++Y=S6 at*
 have HS6:=hd0 hS6.symm;clear hS6;have rS7:∀w',(Op.stringOp .add ⟨S6.toArray⟩ ⟨D2.toArray⟩).run Tryz.prog w'= .ok (.string ⟨(S6++D2).toArray⟩) w':=au S6 D2 (by omega);have lS7:(S6++D2).length<=S6.length+D2.length:=ax _ _;generalize hS7:S6++D2=S7 at*
 have HS7:=hd0 hS7.symm;clear hS7;have CG:=hd0 (aj (W:=W0) (fun w' _=>HD0.out w'));have Cm:=hd0 (aj (W:=W0) (fun w' _=>HD1.out w'));have agS:=hd0 (aj (W:=W0) (fun w' _=>HD2.out w'));have Zm:=hd0 (aj (W:=W0) (fun w' _=>HY.out w'));refine aW (fun v=>Below W0.heap.size W0 v) (by kernel_rfl) (by kernel_rfl) ((aqk W0.heap.size W0).drew) ?_;have aU:Nonempty (WIn (fun v=>Below W0.heap.size W0 v)):=⟨⟨_,((aqk W0.heap.size W0).drew)⟩⟩
 repeat(go_big_quiet_step (first|with_reducible exact CG.out _|with_reducible exact Cm.out _|with_reducible exact Zm.out _|with_reducible exact agS.out _))
 refine wpQuiet_nil ?_;intro _ hw';obtain⟨xq,hw''⟩:=hw';subst hw'';have yM:Hid (Below W0.heap.size W0 xq.w):=hd0 xq.ok;generalize xq.w=wa at*
 clear x0 x1 x2 x3 CG Cm agS Zm aU rS3 rS4 rS5 rS6 rS7;go_wp2_with fail
 go_loopw [3,4] (fun s i wr=>∃k:Nat,k<=pts.length/\i= .int .i64 k/\s= .string ⟨(S7++(pts.take k).flatMap oU).toArray⟩/\Below W0.heap.size W0 wr) (fun _ i _=>pts.length - (intOf i).toNat)
 case atStart=>exact⟨0,nz _,rfl,by simp,yM.out⟩
 case round=>
  obtain⟨lJ,rfl⟩:∃x,x=wr:=⟨_,rfl⟩
  obtain⟨k,hk,rfl,rfl,hb⟩:=hrel;have HX:=hd0 hb;have c3:lJ.cell? ⟨w.heap.size,3,none⟩=some (.slice A3 pts.length d3):=((af HX.out).1 _ _ z0).trans (HK.out.cell 3);by_cases hlt:k<pts.length
  ·
   obtain⟨b,o,x,rfl,-,hx,q0,q1,q2,i0,i1⟩:=(H3.out.lw PtR.ok hb).pt hlt;have hsn:Hid (S7++(pts.take (k+1)).flatMap oU=S7++(pts.take k).flatMap oU++ai x.x++ai x.y++wO x.on):=by show _=_;rw[bg hx.out];simp[oU]
   have hf:=bJ (f:=oU) hx.out;simp only[oU,az,ay,ln] at hf;have hs0:(S7++(pts.take k).flatMap oU).length<=S7.length+((pts.take k).flatMap oU).length:=ax _ _;clear hx hb;go_wp2_with fail
   obtain⟨rQ,hW2⟩:∃W2,lJ.alloc (.cells #[.int .i64 x.x,.int .i64 x.y,.bool x.on] 139)=W2:=⟨_,rfl⟩
   rw[hW2];have afq:Hid (Below W0.heap.size W0 rQ):=by rw[<-hW2];exact hd0 (HX.out.alloc HX.out.size _)
   have b2:Bk rQ lJ.heap.size 139 #[.int .i64 x.x,.int .i64 x.y,.bool x.on]:=by rw[<-hW2];exact Bk.new _ _ _
   clear hW2;have x0:∀xw:WIn (fun v=>Below rQ.heap.size rQ v),xw.w.cell? ⟨lJ.heap.size,0,none⟩=some (.int .i64 x.x):=ae (b2.cell 0);have x1:∀xw:WIn (fun v=>Below rQ.heap.size rQ v),xw.w.cell? ⟨lJ.heap.size,1,none⟩=some (.int .i64 x.y):=ae (b2.cell 1);have x2:∀xw:WIn (fun v=>Below rQ.heap.size rQ v),xw.w.cell? ⟨lJ.heap.size,2,none⟩=some (.bool x.on):=ae (b2.cell 2);clear b2;have jL:=hd0 (aj (W:=rQ) (fun w' _=>aG w' (x.x) i0));have HA1:=hd0 (aj (W:=rQ) (fun w' _=>aG w' (x.y) i1));have HA2:=hd0 (aj (W:=rQ) (fun w' _=>OX w' x.on));generalize S7++(pts.take k).flatMap oU=S11 at*
   generalize ai x.x=D0 at*
   generalize ai x.y=D1 at*
   generalize wO x.on=D2 at*
   have anC:∀w',(Op.stringOp .add ⟨S11.toArray⟩ ⟨D0.toArray⟩).run Tryz.prog w'= .ok (.string ⟨(S11++D0).toArray⟩) w':=au S11 D0 (by omega);have amJ:(S11++D0).length<=S11.length+D0.length:=ax _ _;generalize hS12:S11++D0=S12 at*
   have aiv:=hd0 hS12.symm;clear hS12;have am3:∀w',(Op.stringOp .add ⟨S12.toArray⟩ ⟨D1.toArray⟩).run Tryz.prog w'= .ok (.string ⟨(S12++D1).toArray⟩) w':=au S12 D1 (by omega);have anJ:(S12++D1).length<=S12.length+D1.length:=ax _ _;generalize hS13:S12++D1=S13 at*
   have ajZ:=hd0 hS13.symm;clear hS13;have anx:∀w',(Op.stringOp .add ⟨S13.toArray⟩ ⟨D2.toArray⟩).run Tryz.prog w'= .ok (.string ⟨(S13++D2).toArray⟩) w':=au S13 D2 (by omega);have al3:(S13++D2).length<=S13.length+D2.length:=ax _ _;generalize hS14:S13++D2=S14 at*
   have aia:=hd0 hS14.symm;clear hS14;clear hf hs0;refine aW (fun v=>Below rQ.heap.size rQ v) (by kernel_rfl) (by kernel_rfl) ((aqk rQ.heap.size rQ).drew) ?_;have aU:Nonempty (WIn (fun v=>Below rQ.heap.size rQ v)):=⟨⟨_,((aqk rQ.heap.size rQ).drew)⟩⟩
   repeat(go_big_quiet_step (first|with_reducible exact jL.out _|with_reducible exact HA1.out _|with_reducible exact HA2.out _))
   refine wpQuiet_nil ?_;intro _ hw';obtain⟨xq,hw''⟩:=hw';subst hw'';have dY:Hid (Below W0.heap.size W0 xq.w):=hd0 (afq.out.trans (xq.ok.mono afq.out.size));generalize xq.w=wz at*
   go_wp2_with fail
   go_roundw
   case rel=>exact⟨k+1,by omega,by simp,by rw[hsn.out,aia.out,ajZ.out,aiv.out],dY.out⟩
   case measure=>simp[intOf];omega
  obtain rfl:k=pts.length:=by omega
  rw[aqr];have anz:(S7++pts.flatMap oU).length<=S7.length+(pts.flatMap oU).length:=ax _ _;generalize hS15:S7++pts.flatMap oU=S15 at*
  have akH:=hd0 hS15.symm;clear hS15;have x4:∀xw:WIn (fun v=>Below lJ.heap.size lJ v),xw.w.cell? ⟨w.heap.size,4,none⟩=some (.slice A4 ends.length d4):=ae (((af HX.out).1 _ _ z0).trans (HK.out.cell 4));have x5:∀xw:WIn (fun v=>Below lJ.heap.size lJ v),xw.w.cell? ⟨w.heap.size,5,none⟩=some (.slice A5 parts.length d5):=ae (((af HX.out).1 _ _ z0).trans (HK.out.cell 5));have Yn:=hd0 (aj (W:=lJ) (fun w' hw'=>HR.out w' d4 A4 ((H4.out.lw anO.ok HX.out).lw anO.ok hw')));have afF:=hd0 (aj (W:=lJ) (fun w' _=>HD3.out w'));have akL:∀w',(Op.stringOp .add ⟨S15.toArray⟩ ⟨E.toArray⟩).run Tryz.prog w'= .ok (.string ⟨(S15++E).toArray⟩) w':=au S15 E (by omega);have alU:(S15++E).length<=S15.length+E.length:=ax _ _;generalize hS16:S15++E=S16 at*
  have ajJ:=hd0 hS16.symm;clear hS16;have akx:∀w',(Op.stringOp .add ⟨S16.toArray⟩ ⟨D3.toArray⟩).run Tryz.prog w'= .ok (.string ⟨(S16++D3).toArray⟩) w':=au S16 D3 (by omega);have amS:(S16++D3).length<=S16.length+D3.length:=ax _ _;generalize hS17:S16++D3=S17 at*
  have akm:=hd0 hS17.symm;clear hS17;go_wp2_with fail
  refine aW (fun v=>Below lJ.heap.size lJ v) (by kernel_rfl) (by kernel_rfl) ((aqk lJ.heap.size lJ).drew) ?_;have aU:Nonempty (WIn (fun v=>Below lJ.heap.size lJ v)):=⟨⟨_,((aqk lJ.heap.size lJ).drew)⟩⟩
  repeat(go_big_quiet_step (first|with_reducible exact Yn.out _|with_reducible exact afF.out _))
  refine wpQuiet_nil ?_;intro _ hw';obtain⟨xq,hw''⟩:=hw';subst hw'';have ahD:Hid (Below W0.heap.size W0 xq.w):=hd0 (HX.out.trans (xq.ok.mono HX.out.size));generalize xq.w=wb18 at*
  clear x4 x5 Yn afF aU akL akx HX hb;go_wp2_with fail
  go_loopw [3,6] (fun s i wr=>∃k:Nat,k<=parts.length/\i= .int .i64 k/\s= .string ⟨(S17++(parts.take k).flatMap iP).toArray⟩/\Below W0.heap.size W0 wr) (fun _ i _=>parts.length - (intOf i).toNat)
  case atStart=>exact⟨0,nz _,rfl,by simp,ahD.out⟩
  case round=>
   obtain⟨lg,rfl⟩:∃x,x=wr:=⟨_,rfl⟩
   obtain⟨k,hk,rfl,rfl,hb⟩:=hrel;have HX:=hd0 hb;have c5:lg.cell? ⟨w.heap.size,5,none⟩=some (.slice A5 parts.length d5):=((af HX.out).1 _ _ z0).trans (HK.out.cell 5);by_cases hlt:k<parts.length
   ·
    obtain⟨b,o,x,rfl,-,hx,q0,q1,q2,i0,i1,i2⟩:=(H5.out.lw aog.ok hb).part hlt;have hsn:Hid (S17++(parts.take (k+1)).flatMap iP=S17++(parts.take k).flatMap iP++ai x.anX++ai x.x++ai x.y):=by show _=_;rw[bg hx.out];simp[iP]
    have hf:=bJ (f:=iP) hx.out;simp only[iP,az,ay,ln] at hf;have hs0:(S17++(parts.take k).flatMap iP).length<=S17.length+((parts.take k).flatMap iP).length:=ax _ _;clear hx;have xc:∀xw:WIn (fun v=>Below lg.heap.size lg v),xw.w.cell? ⟨w.heap.size,5,none⟩=some (.slice (some ⟨b,o,none⟩) parts.length d5):=ae c5;have xq0:∀xw:WIn (fun v=>Below lg.heap.size lg v),xw.w.cell? ⟨b,o+k*3,none⟩=some (.int .i64 x.anX):=ae q0;have xq1:∀xw:WIn (fun v=>Below lg.heap.size lg v),xw.w.cell? ⟨b,o+k*3+1,none⟩=some (.int .i64 x.x):=ae q1;have xq2:∀xw:WIn (fun v=>Below lg.heap.size lg v),xw.w.cell? ⟨b,o+k*3+2,none⟩=some (.int .i64 x.y):=ae q2;have jL:=hd0 (aj (W:=lg) (fun w' _=>aG w' (x.anX) i0));have HA1:=hd0 (aj (W:=lg) (fun w' _=>aG w' (x.x) i1));have HA2:=hd0 (aj (W:=lg) (fun w' _=>aG w' (x.y) i2));generalize S17++(parts.take k).flatMap iP=S21 at*
    generalize ai x.anX=D0 at*
    generalize ai x.x=D1 at*
    generalize ai x.y=D2 at*
    have alK:∀w',(Op.stringOp .add ⟨S21.toArray⟩ ⟨D0.toArray⟩).run Tryz.prog w'= .ok (.string ⟨(S21++D0).toArray⟩) w':=au S21 D0 (by omega);have anr:(S21++D0).length<=S21.length+D0.length:=ax _ _;generalize hS22:S21++D0=S22 at*
    have ais:=hd0 hS22.symm;clear hS22;have ang:∀w',(Op.stringOp .add ⟨S22.toArray⟩ ⟨D1.toArray⟩).run Tryz.prog w'= .ok (.string ⟨(S22++D1).toArray⟩) w':=au S22 D1 (by omega);have ani:(S22++D1).length<=S22.length+D1.length:=ax _ _;generalize hS23:S22++D1=S23 at*
    have ajS:=hd0 hS23.symm;clear hS23;have al7:∀w',(Op.stringOp .add ⟨S23.toArray⟩ ⟨D2.toArray⟩).run Tryz.prog w'= .ok (.string ⟨(S23++D2).toArray⟩) w':=au S23 D2 (by omega);have amZ:(S23++D2).length<=S23.length+D2.length:=ax _ _;generalize hS24:S23++D2=S24 at*
    have ajK:=hd0 hS24.symm;clear hS24;clear hf hs0 hb q0 q1 q2;go_wp2_with fail
    refine aW (fun v=>Below lg.heap.size lg v) (by kernel_rfl) (by kernel_rfl) ((aqk lg.heap.size lg).drew) ?_;have aU:Nonempty (WIn (fun v=>Below lg.heap.size lg v)):=⟨⟨_,((aqk lg.heap.size lg).drew)⟩⟩
    repeat(go_big_quiet_step (first|with_reducible exact jL.out _|with_reducible exact HA1.out _|with_reducible exact HA2.out _))
    refine wpQuiet_nil ?_;intro _ hw';obtain⟨xq,hw''⟩:=hw';subst hw'';have dY:Hid (Below W0.heap.size W0 xq.w):=hd0 (HX.out.trans (xq.ok.mono HX.out.size));generalize xq.w=wz at*
    go_wp2_with fail
    go_roundw
    case rel=>exact⟨k+1,by omega,by simp,by rw[hsn.out,ajK.out,ajS.out,ais.out],dY.out⟩
    case measure=>simp[intOf];omega
   obtain rfl:k=parts.length:=by omega
   rw[aqr];have ane:(S17++parts.flatMap iP).length<=S17.length+(parts.flatMap iP).length:=ax _ _;generalize hS25:S17++parts.flatMap iP=S25 at*
   have aiD:=hd0 hS25.symm;clear hS25;have c6:lg.cell? ⟨w.heap.size,6,none⟩=some (.slice A6 bQ.length d6):=((af HX.out).1 _ _ z0).trans (HK.out.cell 6);have anc:∀w',(Op.stringOp .add ⟨S25.toArray⟩ ⟨D4.toArray⟩).run Tryz.prog w'= .ok (.string ⟨(S25++D4).toArray⟩) w':=au S25 D4 (by omega);have alP:(S25++D4).length<=S25.length+D4.length:=ax _ _;generalize hS26:S25++D4=S26 at*
   have akR:=hd0 hS26.symm;clear hS26;go_wp2_with fail
   refine(HD4.out _).mono ?_;rintro e ajW ⟨rfl,hbd⟩;have ahh:Hid (Below W0.heap.size W0 ajW):=hd0 (HX.out.trans (hbd.mono HX.out.size));clear hbd c6 HX hb;go_wp2_with fail
   go_loopw [3,7] (fun s i wr=>∃k:Nat,k<=bQ.length/\i= .int .i64 k/\s= .string ⟨(S26++(bQ.take k).flatMap iJ).toArray⟩/\Below W0.heap.size W0 wr) (fun _ i _=>bQ.length - (intOf i).toNat)
   case atStart=>exact⟨0,nz _,rfl,by simp,ahh.out⟩
   case round=>
    obtain⟨CZ,rfl⟩:∃x,x=wr:=⟨_,rfl⟩
    obtain⟨k,hk,rfl,rfl,hb⟩:=hrel;have HX:=hd0 hb;have c6:CZ.cell? ⟨w.heap.size,6,none⟩=some (.slice A6 bQ.length d6):=((af HX.out).1 _ _ z0).trans (HK.out.cell 6);by_cases hlt:k<bQ.length
    ·
     obtain⟨b,o,x,rfl,-,hx,q0,q1,q2,q3,i0,i1,i2,i3⟩:=(H6.out.lw an2.ok hb).anchor hlt;have hsn:Hid (S26++(bQ.take (k+1)).flatMap iJ=S26++(bQ.take k).flatMap iJ++ai x.kind++ai x.cls++ai x.x++ai x.y):=by show _=_;rw[bg hx.out];simp[iJ]
     have hf:=bJ (f:=iJ) hx.out;simp only[iJ,az,ay,ln] at hf;have hs0:(S26++(bQ.take k).flatMap iJ).length<=S26.length+((bQ.take k).flatMap iJ).length:=ax _ _;clear hx hb;go_wp2_with fail
     obtain⟨oW,hW2⟩:∃W2,CZ.alloc (.cells #[.int .i64 x.kind,.int .i64 x.cls,.int .i64 x.x,.int .i64 x.y] 89)=W2:=⟨_,rfl⟩
     rw[hW2];have afv:Hid (Below W0.heap.size W0 oW):=by rw[<-hW2];exact hd0 (HX.out.alloc HX.out.size _)
     have b2:Bk oW CZ.heap.size 89 #[.int .i64 x.kind,.int .i64 x.cls,.int .i64 x.x,.int .i64 x.y]:=by rw[<-hW2];exact Bk.new _ _ _
     clear hW2;have x0:∀xw:WIn (fun v=>Below oW.heap.size oW v),xw.w.cell? ⟨CZ.heap.size,0,none⟩=some (.int .i64 x.kind):=ae (b2.cell 0);have x1:∀xw:WIn (fun v=>Below oW.heap.size oW v),xw.w.cell? ⟨CZ.heap.size,1,none⟩=some (.int .i64 x.cls):=ae (b2.cell 1);have x2:∀xw:WIn (fun v=>Below oW.heap.size oW v),xw.w.cell? ⟨CZ.heap.size,2,none⟩=some (.int .i64 x.x):=ae (b2.cell 2);have x3:∀xw:WIn (fun v=>Below oW.heap.size oW v),xw.w.cell? ⟨CZ.heap.size,3,none⟩=some (.int .i64 x.y):=ae (b2.cell 3);clear b2;have jL:=hd0 (aj (W:=oW) (fun w' _=>aG w' (x.kind) i0));have HA1:=hd0 (aj (W:=oW) (fun w' _=>aG w' (x.cls) i1));have HA2:=hd0 (aj (W:=oW) (fun w' _=>aG w' (x.x) i2));have uX:=hd0 (aj (W:=oW) (fun w' _=>aG w' (x.y) i3));generalize S26++(bQ.take k).flatMap iJ=S31 at*
     generalize ai x.kind=D0 at*
     generalize ai x.cls=D1 at*
     generalize ai x.x=D2 at*
     generalize ai x.y=D3 at*
     have alQ:∀w',(Op.stringOp .add ⟨S31.toArray⟩ ⟨D0.toArray⟩).run Tryz.prog w'= .ok (.string ⟨(S31++D0).toArray⟩) w':=au S31 D0 (by omega);have ant:(S31++D0).length<=S31.length+D0.length:=ax _ _;generalize hS32:S31++D0=S32 at*
     have aiy:=hd0 hS32.symm;clear hS32;have am6:∀w',(Op.stringOp .add ⟨S32.toArray⟩ ⟨D1.toArray⟩).run Tryz.prog w'= .ok (.string ⟨(S32++D1).toArray⟩) w':=au S32 D1 (by omega);have anD:(S32++D1).length<=S32.length+D1.length:=ax _ _;generalize hS33:S32++D1=S33 at*
     have akC:=hd0 hS33.symm;clear hS33;have al8:∀w',(Op.stringOp .add ⟨S33.toArray⟩ ⟨D2.toArray⟩).run Tryz.prog w'= .ok (.string ⟨(S33++D2).toArray⟩) w':=au S33 D2 (by omega);have alO:(S33++D2).length<=S33.length+D2.length:=ax _ _;generalize hS34:S33++D2=S34 at*
     have akw:=hd0 hS34.symm;clear hS34;have amV:∀w',(Op.stringOp .add ⟨S34.toArray⟩ ⟨D3.toArray⟩).run Tryz.prog w'= .ok (.string ⟨(S34++D3).toArray⟩) w':=au S34 D3 (by omega);have anB:(S34++D3).length<=S34.length+D3.length:=ax _ _;generalize hS35:S34++D3=S35 at*
     have ajE:=hd0 hS35.symm;clear hS35;clear hf hs0;refine aW (fun v=>Below oW.heap.size oW v) (by kernel_rfl) (by kernel_rfl) ((aqk oW.heap.size oW).drew) ?_;have aU:Nonempty (WIn (fun v=>Below oW.heap.size oW v)):=⟨⟨_,((aqk oW.heap.size oW).drew)⟩⟩
     repeat(go_big_quiet_step (first|with_reducible exact jL.out _|with_reducible exact HA1.out _|with_reducible exact HA2.out _|with_reducible exact uX.out _))
     refine wpQuiet_nil ?_;intro _ hw';obtain⟨xq,hw''⟩:=hw';subst hw'';have dY:Hid (Below W0.heap.size W0 xq.w):=hd0 (afv.out.trans (xq.ok.mono afv.out.size));generalize xq.w=wz at*
     go_wp2_with fail
     go_roundw
     case rel=>exact⟨k+1,by omega,by simp,by rw[hsn.out,ajE.out,akw.out,akC.out,aiy.out],dY.out⟩
     case measure=>simp[intOf];omega
    obtain rfl:k=bQ.length:=by omega
    rw[aqr];have amd:(S26++bQ.flatMap iJ).length<=S26.length+(bQ.flatMap iJ).length:=ax _ _;generalize hS36:S26++bQ.flatMap iJ=S36 at*
    have aij:=hd0 hS36.symm;clear hS36;have c7:CZ.cell? ⟨w.heap.size,7,none⟩=some (.slice A7 an1.length d7):=((af HX.out).1 _ _ z0).trans (HK.out.cell 7);have al6:∀w',(Op.stringOp .add ⟨S36.toArray⟩ ⟨D5.toArray⟩).run Tryz.prog w'= .ok (.string ⟨(S36++D5).toArray⟩) w':=au S36 D5 (by omega);have anj:(S36++D5).length<=S36.length+D5.length:=ax _ _;generalize hS37:S36++D5=S37 at*
    have ajp:=hd0 hS37.symm;clear hS37;go_wp2_with fail
    refine(HD5.out _).mono ?_;rintro e aif ⟨rfl,hbd⟩;have ah2:Hid (Below W0.heap.size W0 aif):=hd0 (HX.out.trans (hbd.mono HX.out.size));clear hbd c7 HX hb;go_wp2_with fail
    go_loopw [3,9] (fun s i wr=>∃k:Nat,k<=an1.length/\i= .int .i64 k/\s= .string ⟨(S37++(an1.take k).flatMap kz).toArray⟩/\Below W0.heap.size W0 wr) (fun _ i _=>an1.length - (intOf i).toNat)
    case atStart=>exact⟨0,nz _,rfl,by simp,ah2.out⟩
    case round=>
     obtain⟨BU,rfl⟩:∃x,x=wr:=⟨_,rfl⟩
     obtain⟨k,hk,rfl,rfl,hb⟩:=hrel;have HX:=hd0 hb;have c7:BU.cell? ⟨w.heap.size,7,none⟩=some (.slice A7 an1.length d7):=((af HX.out).1 _ _ z0).trans (HK.out.cell 7);by_cases hlt:k<an1.length
     ·
      obtain⟨b,o,x,rfl,-,hx,q0,q1,q2,q3,i0,i1,i2,i3⟩:=(H7.out.lw an6.ok hb).delta hlt;have hsn:Hid (S37++(an1.take (k+1)).flatMap kz=S37++(an1.take k).flatMap kz++ai x.region++ai x.point++ai x.x++ai x.y):=by show _=_;rw[bg hx.out];simp[kz]
      have hf:=bJ (f:=kz) hx.out;simp only[kz,az,ay,ln] at hf;have hs0:(S37++(an1.take k).flatMap kz).length<=S37.length+((an1.take k).flatMap kz).length:=ax _ _;clear hx hb;go_wp2_with fail
      obtain⟨o6,hW2⟩:∃W2,BU.alloc (.cells #[.int .i64 x.region,.int .i64 x.point,.int .i64 x.x,.int .i64 x.y] 91)=W2:=⟨_,rfl⟩
      rw[hW2];have afg:Hid (Below W0.heap.size W0 o6):=by rw[<-hW2];exact hd0 (HX.out.alloc HX.out.size _)
      have b2:Bk o6 BU.heap.size 91 #[.int .i64 x.region,.int .i64 x.point,.int .i64 x.x,.int .i64 x.y]:=by rw[<-hW2];exact Bk.new _ _ _
      clear hW2;have x0:∀xw:WIn (fun v=>Below o6.heap.size o6 v),xw.w.cell? ⟨BU.heap.size,0,none⟩=some (.int .i64 x.region):=ae (b2.cell 0);have x1:∀xw:WIn (fun v=>Below o6.heap.size o6 v),xw.w.cell? ⟨BU.heap.size,1,none⟩=some (.int .i64 x.point):=ae (b2.cell 1);have x2:∀xw:WIn (fun v=>Below o6.heap.size o6 v),xw.w.cell? ⟨BU.heap.size,2,none⟩=some (.int .i64 x.x):=ae (b2.cell 2);have x3:∀xw:WIn (fun v=>Below o6.heap.size o6 v),xw.w.cell? ⟨BU.heap.size,3,none⟩=some (.int .i64 x.y):=ae (b2.cell 3);clear b2;have jL:=hd0 (aj (W:=o6) (fun w' _=>aG w' (x.region) i0));have HA1:=hd0 (aj (W:=o6) (fun w' _=>aG w' (x.point) i1));have HA2:=hd0 (aj (W:=o6) (fun w' _=>aG w' (x.x) i2));have uX:=hd0 (aj (W:=o6) (fun w' _=>aG w' (x.y) i3));generalize S37++(an1.take k).flatMap kz=S42 at*
      generalize ai x.region=D0 at*
      generalize ai x.point=D1 at*
      generalize ai x.x=D2 at*
      generalize ai x.y=D3 at*
      have amF:∀w',(Op.stringOp .add ⟨S42.toArray⟩ ⟨D0.toArray⟩).run Tryz.prog w'= .ok (.string ⟨(S42++D0).toArray⟩) w':=au S42 D0 (by omega);have aml:(S42++D0).length<=S42.length+D0.length:=ax _ _;generalize hS43:S42++D0=S43 at*
      have aio:=hd0 hS43.symm;clear hS43;have anv:∀w',(Op.stringOp .add ⟨S43.toArray⟩ ⟨D1.toArray⟩).run Tryz.prog w'= .ok (.string ⟨(S43++D1).toArray⟩) w':=au S43 D1 (by omega);have amq:(S43++D1).length<=S43.length+D1.length:=ax _ _;generalize hS44:S43++D1=S44 at*
      have ail:=hd0 hS44.symm;clear hS44;have amW:∀w',(Op.stringOp .add ⟨S44.toArray⟩ ⟨D2.toArray⟩).run Tryz.prog w'= .ok (.string ⟨(S44++D2).toArray⟩) w':=au S44 D2 (by omega);have anI:(S44++D2).length<=S44.length+D2.length:=ax _ _;generalize hS45:S44++D2=S45 at*
      have aip:=hd0 hS45.symm;clear hS45;have ana:∀w',(Op.stringOp .add ⟨S45.toArray⟩ ⟨D3.toArray⟩).run Tryz.prog w'= .ok (.string ⟨(S45++D3).toArray⟩) w':=au S45 D3 (by omega);have ann:(S45++D3).length<=S45.length+D3.length:=ax _ _;generalize hS46:S45++D3=S46 at*
      have aju:=hd0 hS46.symm;clear hS46;clear hf hs0;refine aW (fun v=>Below o6.heap.size o6 v) (by kernel_rfl) (by kernel_rfl) ((aqk o6.heap.size o6).drew) ?_;have aU:Nonempty (WIn (fun v=>Below o6.heap.size o6 v)):=⟨⟨_,((aqk o6.heap.size o6).drew)⟩⟩
      repeat(go_big_quiet_step (first|with_reducible exact jL.out _|with_reducible exact HA1.out _|with_reducible exact HA2.out _|with_reducible exact uX.out _))
      refine wpQuiet_nil ?_;intro _ hw';obtain⟨xq,hw''⟩:=hw';subst hw'';have dY:Hid (Below W0.heap.size W0 xq.w):=hd0 (afg.out.trans (xq.ok.mono afg.out.size));generalize xq.w=wz at*
      go_wp2_with fail
      go_roundw
      case rel=>exact⟨k+1,by omega,by simp,by rw[hsn.out,aju.out,aip.out,ail.out,aio.out],dY.out⟩
      case measure=>simp[intOf];omega
     obtain rfl:k=an1.length:=by omega
     rw[aqr];have alV:(S37++an1.flatMap kz).length<=S37.length+(an1.flatMap kz).length:=ax _ _;generalize hS47:S37++an1.flatMap kz=S47 at*
     have akE:=hd0 hS47.symm;clear hS47;have r8:=((af HX.out).1 _ _ z0).trans (HK.out.cell 8);have c8:BU.cell? ⟨w.heap.size,8,none⟩=some (.slice A8 hint.length d8):=((af HX.out).1 _ _ z0).trans (HK.out.cell 8);clear r8;have amb:∀w',(Op.stringOp .add ⟨S47.toArray⟩ ⟨H.toArray⟩).run Tryz.prog w'= .ok (.string ⟨(S47++H).toArray⟩) w':=au S47 H (by omega);have am0:(S47++H).length<=S47.length+H.length:=ax _ _;generalize hS48:S47++H=S48 at*
     have ajI:=hd0 hS48.symm;clear hS48;go_wp2_with fail
     refine(HP.out _ _ _ (H8.out.lw an5.ok HX.out)).mono ?_;rintro e wy ⟨rfl,hby⟩;have HY2:Hid (Below W0.heap.size W0 wy):=hd0 (HX.out.trans (hby.mono HX.out.size));clear hby HP;go_wp2_with fail
     go_ret
     exact⟨by rw[ajI.out,akE.out,ajp.out,aij.out,akR.out,aiD.out,akm.out,ajJ.out,akH.out,HS7.out,HS6.out,HS5.out,HS4.out,HS3.out];rfl,HW.out.trans (HY2.out.mono HW.out.size)⟩
end Go.Proofs.YtkijckccfookeaaGreatDoor
