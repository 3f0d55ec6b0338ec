/- Lemmas. -/
import Derived.Test.YtkijckccfookeaaDoorX13
set_option linter.unusedVariables false
set_option linter.unusedSimpArgs false
set_option maxRecDepth 100000
set_option maxHeartbeats 32000000
namespace Go.Proofs.YtkijckccfookeaaDoor
open Go.RowKit
theorem JF (p:Pt):1<=(lU p).length:=by have:=dL p.x;unfold lU;rw[la];omega
theorem Ey (p:Part):1<=(fQ p).length:=by have:=dL p.aeT;unfold fQ;rw[la];omega
theorem Et (p:ae5):1<=(fU p).length:=by have:=dL p.kind;unfold fU;rw[la];omega
theorem Iy (p:Delta):1<=(ji p).length:=by have:=dL p.region;unfold ji;rw[la];omega
theorem Pj (w:World)(g:aeS)(A3 A4 A5 A6 A7 A8:Option Addr)(d3 d4 d5 d6 d7 d8:Nat)(i1:I64 g.advance)(h3:Sl PtR 3 w (Lw w) A3 g.points)(h4:Sl aeQ 1 w (Lw w) A4 g.ends)(h5:Sl afg 3 w (Lw w) A5 g.parts)(h6:Sl ae6 4 w (Lw w) A6 g.anchors)(h7:Sl afc 4 w (Lw w) A7 g.deltas)(h8:Sl ae9 2 w (Lw w) A8 g.hint)(hlen:(dD g).length<=100000000000000):
  Calls Tryd.prog 51 #[.agg #[.string ⟨g.name.toArray⟩,.int .i64 g.advance,.bool g.mark,.slice A3 g.points.length d3,.slice A4 g.ends.length d4,.slice A5 g.parts.length d5,.slice A6 g.anchors.length d6,.slice A7 g.deltas.length d7,.slice A8 g.hint.length d8]] w fun e w'=>e= .returned (.string ⟨(dD g).toArray⟩)/\Below w.heap.size w w':=by
 obtain⟨nm,adv,mk,pts,ends,parts,eQ,ae3,hint⟩:=g;have hgl:dD ⟨nm,adv,mk,pts,ends,parts,eQ,ae3,hint⟩=ah (nm.length:Int)++nm++[32]++ah adv++oN mk++ah (pts.length:Int)++pts.flatMap lU++rowB ends++ah (parts.length:Int)++parts.flatMap fQ++ah (eQ.length:Int)++eQ.flatMap fU++ah (ae3.length:Int)++ae3.flatMap ji++dO hint:=by simp[dD,lN,Qv,IA,I7,Nc]
 rw[hgl] at hlen ⊢;clear hgl;simp only[la,aV,ln] at hlen;simp only at i1 h3 h4 h5 h6 h7 h8 ⊢;have n0:I64 (nm.length:Int):=⟨by omega,by omega⟩
 have n3:I64 (pts.length:Int):=jy lU JF pts (by omega);have ln3:pts.length<=100000000000000:=nt (dM lU JF pts) (by omega);have n5:I64 (parts.length:Int):=jy fQ Ey parts (by omega);have ln5:parts.length<=100000000000000:=nt (dM fQ Ey parts) (by omega);have n6:I64 (eQ.length:Int):=jy fU Et eQ (by omega);have ln6:eQ.length<=100000000000000:=nt (dM fU Et eQ) (by omega);have n7:I64 (ae3.length:Int):=jy ji Iy ae3 (by omega);have ln7:ae3.length<=100000000000000:=nt (dM ji Iy ae3) (by omega);have H3:=hd0 h3;have H4:=hd0 h4;have H5:=hd0 h5;have H6:=hd0 h6;have H7:=hd0 h7;have H8:=hd0 h8;have HE:=hd0 (show(rowB ends).length<=100000000000000 by omega);have HC:=hd0 (show(dO hint).length<=100000000000000 by omega);have HD0:=hd0 (fun w'=>aA w' _ n0);have HD1:=hd0 (fun w'=>aA w' _ i1);have HD2:=hd0 (fun w'=>aA w' _ n3);have HD3:=hd0 (fun w'=>aA w' _ n5);have HD4:=hd0 (fun w'=>aA w' _ n6);have HD5:=hd0 (fun w'=>aA w' _ n7);have HY:=hd0 (fun w'=>IJ w' mk);have HR:=hd0 (fun w' c A (h:Sl aeQ 1 w' (Lw w') A ends)=>um w' A c ends h HE.out);have HP:=hd0 (fun w' c A (h:Sl ae9 2 w' (Lw w') A hint)=>GK w' A c hint h HC.out);clear h3 h4 h5 h6 h7 h8 n0 i1 n3 n5 n6 n7 HE HC;generalize ah (nm.length:Int)=D0 at*
 generalize ah adv=D1 at*
 generalize oN mk=Y at*
 generalize ah (pts.length:Int)=D2 at*
 generalize rowB ends=E at*
 generalize ah (parts.length:Int)=D3 at*
 generalize ah (eQ.length:Int)=D4 at*
 generalize ah (ae3.length:Int)=D5 at*
 generalize dO hint=H at*
 go_enter Tryd.func51,Tryd.ntmps51
 go_wp2_with fail
 obtain⟨W0,hW0⟩:∃W0,w.alloc (.cells #[.string ⟨nm.toArray⟩,.int .i64 adv,.bool mk,.slice A3 pts.length d3,.slice A4 ends.length d4,.slice A5 parts.length d5,.slice A6 eQ.length d6,.slice A7 ae3.length d7,.slice A8 hint.length d8] 57)=W0:=⟨_,rfl⟩
 rw[hW0];have HW:Hid (Below w.heap.size w W0):=by rw[<-hW0];exact hd0 ((agE _ _).alloc (ai _) _)
 have HK:Hid (Bk W0 w.heap.size 57 #[.string ⟨nm.toArray⟩,.int .i64 adv,.bool mk,.slice A3 pts.length d3,.slice A4 ends.length d4,.slice A5 parts.length d5,.slice A6 eQ.length d6,.slice A7 ae3.length d7,.slice A8 hint.length d8]):=by rw[<-hW0];exact hd0 (Bk.new _ _ _)
 have z0:w.heap.size<W0.heap.size:=HK.out.lt;clear hW0;replace H3:=hd0 (H3.out.lw PtR.ok HW.out);replace H4:=hd0 (H4.out.lw aeQ.ok HW.out);replace H5:=hd0 (H5.out.lw afg.ok HW.out);replace H6:=hd0 (H6.out.lw ae6.ok HW.out);replace H7:=hd0 (H7.out.lw afc.ok HW.out);replace H8:=hd0 (H8.out.lw ae9.ok HW.out);have x0:∀xw:WIn (fun v=>Below W0.heap.size W0 v),xw.w.cell? ⟨w.heap.size,0,none⟩=some (.string ⟨nm.toArray⟩):=ag (HK.out.cell 0);have x1:∀xw:WIn (fun v=>Below W0.heap.size W0 v),xw.w.cell? ⟨w.heap.size,1,none⟩=some (.int .i64 adv):=ag (HK.out.cell 1);have x2:∀xw:WIn (fun v=>Below W0.heap.size W0 v),xw.w.cell? ⟨w.heap.size,2,none⟩=some (.bool mk):=ag (HK.out.cell 2);have x3:∀xw:WIn (fun v=>Below W0.heap.size W0 v),xw.w.cell? ⟨w.heap.size,3,none⟩=some (.slice A3 pts.length d3):=ag (HK.out.cell 3);have rS3:∀w',(Op.stringOp .add ⟨D0.toArray⟩ ⟨nm.toArray⟩).run Tryd.prog w'= .ok (.string ⟨(D0++nm).toArray⟩) w':=bf D0 nm (by omega);have lS3:(D0++nm).length<=D0.length+nm.length:=aW _ _;generalize hS3:D0++nm=S3 at*
 have HS3:=hd0 hS3.symm;clear hS3;have rS4:∀w',(Op.stringOp .add ⟨S3.toArray⟩ ⟨#[32]⟩).run Tryd.prog w'= .ok (.string ⟨(S3++[32]).toArray⟩) w':=bf S3 [32] (by simp only[aV,ln];omega);have lS4:(S3++[32]).length<=S3.length+1:=aW _ _;generalize hS4:S3++[32]=S4 at*
 have HS4:=hd0 hS4.symm;clear hS4;have rS5:∀w',(Op.stringOp .add ⟨S4.toArray⟩ ⟨D1.toArray⟩).run Tryd.prog w'= .ok (.string ⟨(S4++D1).toArray⟩) w':=bf S4 D1 (by omega);have lS5:(S4++D1).length<=S4.length+D1.length:=aW _ _;generalize hS5:S4++D1=S5 at*
 have Bj:=hd0 hS5.symm;clear hS5;have rS6:∀w',(Op.stringOp .add ⟨S5.toArray⟩ ⟨Y.toArray⟩).run Tryd.prog w'= .ok (.string ⟨(S5++Y).toArray⟩) w':=bf S5 Y (by omega);have lS6:(S5++Y).length<=S5.length+Y.length:=aW _ _;generalize hS6:S5++Y=S6 at*
 have HS6:=hd0 hS6.symm;clear hS6;have rS7:∀w',(Op.stringOp .add ⟨S6.toArray⟩ ⟨D2.toArray⟩).run Tryd.prog w'= .ok (.string ⟨(S6++D2).toArray⟩) w':=bf S6 D2 (by omega);have lS7:(S6++D2).length<=S6.length+D2.length:=aW _ _;generalize hS7:S6++D2=S7 at*
 have HS7:=hd0 hS7.symm;clear hS7;have xC:=hd0 (aC (W:=W0) (fun w' _=>HD0.out w'));have xX:=hd0 (aC (W:=W0) (fun w' _=>HD1.out w'));have XW:=hd0 (aC (W:=W0) (fun w' _=>HD2.out w'));have PO:=hd0 (aC (W:=W0) (fun w' _=>HY.out w'));refine bT (fun v=>Below W0.heap.size W0 v) (by kernel_rfl) (by kernel_rfl) ((agE W0.heap.size W0).drew) ?_;have aQ:Nonempty (WIn (fun v=>Below W0.heap.size W0 v)):=⟨⟨_,((agE W0.heap.size W0).drew)⟩⟩
 repeat(go_big_quiet_step (first|with_reducible exact xC.out _|with_reducible exact xX.out _|with_reducible exact PO.out _|with_reducible exact XW.out _))
 refine wpQuiet_nil ?_;intro _ hw';obtain⟨xq,hw''⟩:=hw';subst hw'';have Pv:Hid (Below W0.heap.size W0 xq.w):=hd0 xq.ok;generalize xq.w=wa at*
 clear x0 x1 x2 x3 xC xX XW PO aQ rS3 rS4 rS5 rS6 rS7;go_wp2_with fail
 go_loopw [3,4] (fun s i wr=>∃k:Nat,k<=pts.length/\i= .int .i64 k/\s= .string ⟨(S7++(pts.take k).flatMap lU).toArray⟩/\Below W0.heap.size W0 wr) (fun _ i _=>pts.length - (intOf i).toNat)
 case atStart=>exact⟨0,nz _,rfl,by simp,Pv.out⟩
 case round=>
  obtain⟨mV,rfl⟩:∃x,x=wr:=⟨_,rfl⟩
  obtain⟨k,hk,rfl,rfl,hb⟩:=hrel;have HX:=hd0 hb;have c3:mV.cell? ⟨w.heap.size,3,none⟩=some (.slice A3 pts.length d3):=((aP HX.out).1 _ _ z0).trans (HK.out.cell 3);by_cases hlt:k<pts.length
  ·
   obtain⟨b,o,x,rfl,-,hx,q0,q1,q2,i0,i1⟩:=(H3.out.lw PtR.ok hb).pt hlt;have hsn:Hid (S7++(pts.take (k+1)).flatMap lU=S7++(pts.take k).flatMap lU++ah x.x++ah x.y++oN x.on):=by show _=_;rw[dB hx.out];simp[lU]
   have hf:=eX (f:=lU) hx.out;simp only[lU,la,aV,ln] at hf;have hs0:(S7++(pts.take k).flatMap lU).length<=S7.length+((pts.take k).flatMap lU).length:=aW _ _;clear hx hb;go_wp2_with fail
   obtain⟨kC,hW2⟩:∃W2,mV.alloc (.cells #[.int .i64 x.x,.int .i64 x.y,.bool x.on] 146)=W2:=⟨_,rfl⟩
   rw[hW2];have Xw:Hid (Below W0.heap.size W0 kC):=by rw[<-hW2];exact hd0 (HX.out.alloc HX.out.size _)
   have b2:Bk kC mV.heap.size 146 #[.int .i64 x.x,.int .i64 x.y,.bool x.on]:=by rw[<-hW2];exact Bk.new _ _ _
   clear hW2;have x0:∀xw:WIn (fun v=>Below kC.heap.size kC v),xw.w.cell? ⟨mV.heap.size,0,none⟩=some (.int .i64 x.x):=ag (b2.cell 0);have x1:∀xw:WIn (fun v=>Below kC.heap.size kC v),xw.w.cell? ⟨mV.heap.size,1,none⟩=some (.int .i64 x.y):=ag (b2.cell 1);have x2:∀xw:WIn (fun v=>Below kC.heap.size kC v),xw.w.cell? ⟨mV.heap.size,2,none⟩=some (.bool x.on):=ag (b2.cell 2);clear b2;have nI:=hd0 (aC (W:=kC) (fun w' _=>aA w' (x.x) i0));have HA1:=hd0 (aC (W:=kC) (fun w' _=>aA w' (x.y) i1));have HA2:=hd0 (aC (W:=kC) (fun w' _=>IJ w' x.on));generalize S7++(pts.take k).flatMap lU=Ea at*
   generalize ah x.x=D0 at*
   generalize ah x.y=D1 at*
   generalize oN x.on=D2 at*
   have adZ:∀w',(Op.stringOp .add ⟨Ea.toArray⟩ ⟨D0.toArray⟩).run Tryd.prog w'= .ok (.string ⟨(Ea++D0).toArray⟩) w':=bf Ea D0 (by omega);have adN:(Ea++D0).length<=Ea.length+D0.length:=aW _ _;generalize hS12:Ea++D0=Ed at*
   have aca:=hd0 hS12.symm;clear hS12;have adq:∀w',(Op.stringOp .add ⟨Ed.toArray⟩ ⟨D1.toArray⟩).run Tryd.prog w'= .ok (.string ⟨(Ed++D1).toArray⟩) w':=bf Ed D1 (by omega);have aez:(Ed++D1).length<=Ed.length+D1.length:=aW _ _;generalize hS13:Ed++D1=S13 at*
   have aaF:=hd0 hS13.symm;clear hS13;have aem:∀w',(Op.stringOp .add ⟨S13.toArray⟩ ⟨D2.toArray⟩).run Tryd.prog w'= .ok (.string ⟨(S13++D2).toArray⟩) w':=bf S13 D2 (by omega);have aed:(S13++D2).length<=S13.length+D2.length:=aW _ _;generalize hS14:S13++D2=S14 at*
   have aaG:=hd0 hS14.symm;clear hS14;clear hf hs0;refine bT (fun v=>Below kC.heap.size kC v) (by kernel_rfl) (by kernel_rfl) ((agE kC.heap.size kC).drew) ?_;have aQ:Nonempty (WIn (fun v=>Below kC.heap.size kC v)):=⟨⟨_,((agE kC.heap.size kC).drew)⟩⟩
   repeat(go_big_quiet_step (first|with_reducible exact nI.out _|with_reducible exact HA1.out _|with_reducible exact HA2.out _))
   refine wpQuiet_nil ?_;intro _ hw';obtain⟨xq,hw''⟩:=hw';subst hw'';have lq:Hid (Below W0.heap.size W0 xq.w):=hd0 (Xw.out.trans (xq.ok.mono Xw.out.size));generalize xq.w=wz at*
   go_wp2_with fail
   go_roundw
   case rel=>exact⟨k+1,by omega,by simp,by rw[hsn.out,aaG.out,aaF.out,aca.out],lq.out⟩
   case measure=>simp[intOf];omega
  obtain rfl:k=pts.length:=by omega
  rw[agK];have ad5:(S7++pts.flatMap lU).length<=S7.length+(pts.flatMap lU).length:=aW _ _;generalize hS15:S7++pts.flatMap lU=S15 at*
  have abq:=hd0 hS15.symm;clear hS15;have x4:∀xw:WIn (fun v=>Below mV.heap.size mV v),xw.w.cell? ⟨w.heap.size,4,none⟩=some (.slice A4 ends.length d4):=ag (((aP HX.out).1 _ _ z0).trans (HK.out.cell 4));have x5:∀xw:WIn (fun v=>Below mV.heap.size mV v),xw.w.cell? ⟨w.heap.size,5,none⟩=some (.slice A5 parts.length d5):=ag (((aP HX.out).1 _ _ z0).trans (HK.out.cell 5));have OZ:=hd0 (aC (W:=mV) (fun w' hw'=>HR.out w' d4 A4 ((H4.out.lw aeQ.ok HX.out).lw aeQ.ok hw')));have XX:=hd0 (aC (W:=mV) (fun w' _=>HD3.out w'));have abZ:∀w',(Op.stringOp .add ⟨S15.toArray⟩ ⟨E.toArray⟩).run Tryd.prog w'= .ok (.string ⟨(S15++E).toArray⟩) w':=bf S15 E (by omega);have adO:(S15++E).length<=S15.length+E.length:=aW _ _;generalize hS16:S15++E=S16 at*
  have aaY:=hd0 hS16.symm;clear hS16;have aaE:∀w',(Op.stringOp .add ⟨S16.toArray⟩ ⟨D3.toArray⟩).run Tryd.prog w'= .ok (.string ⟨(S16++D3).toArray⟩) w':=bf S16 D3 (by omega);have adn:(S16++D3).length<=S16.length+D3.length:=aW _ _;generalize hS17:S16++D3=S17 at*
  have abD:=hd0 hS17.symm;clear hS17;go_wp2_with fail
  refine bT (fun v=>Below mV.heap.size mV v) (by kernel_rfl) (by kernel_rfl) ((agE mV.heap.size mV).drew) ?_;have aQ:Nonempty (WIn (fun v=>Below mV.heap.size mV v)):=⟨⟨_,((agE mV.heap.size mV).drew)⟩⟩
  repeat(go_big_quiet_step (first|with_reducible exact OZ.out _|with_reducible exact XX.out _))
  refine wpQuiet_nil ?_;intro _ hw';obtain⟨xq,hw''⟩:=hw';subst hw'';have ZJ:Hid (Below W0.heap.size W0 xq.w):=hd0 (HX.out.trans (xq.ok.mono HX.out.size));generalize xq.w=wb18 at*
  clear x4 x5 OZ XX aQ abZ aaE HX hb;go_wp2_with fail
  go_loopw [3,6] (fun s i wr=>∃k:Nat,k<=parts.length/\i= .int .i64 k/\s= .string ⟨(S17++(parts.take k).flatMap fQ).toArray⟩/\Below W0.heap.size W0 wr) (fun _ i _=>parts.length - (intOf i).toNat)
  case atStart=>exact⟨0,nz _,rfl,by simp,ZJ.out⟩
  case round=>
   obtain⟨jB,rfl⟩:∃x,x=wr:=⟨_,rfl⟩
   obtain⟨k,hk,rfl,rfl,hb⟩:=hrel;have HX:=hd0 hb;have c5:jB.cell? ⟨w.heap.size,5,none⟩=some (.slice A5 parts.length d5):=((aP HX.out).1 _ _ z0).trans (HK.out.cell 5);by_cases hlt:k<parts.length
   ·
    obtain⟨b,o,x,rfl,-,hx,q0,q1,q2,i0,i1,i2⟩:=(H5.out.lw afg.ok hb).part hlt;have hsn:Hid (S17++(parts.take (k+1)).flatMap fQ=S17++(parts.take k).flatMap fQ++ah x.aeT++ah x.x++ah x.y):=by show _=_;rw[dB hx.out];simp[fQ]
    have hf:=eX (f:=fQ) hx.out;simp only[fQ,la,aV,ln] at hf;have hs0:(S17++(parts.take k).flatMap fQ).length<=S17.length+((parts.take k).flatMap fQ).length:=aW _ _;clear hx;have xc:∀xw:WIn (fun v=>Below jB.heap.size jB v),xw.w.cell? ⟨w.heap.size,5,none⟩=some (.slice (some ⟨b,o,none⟩) parts.length d5):=ag c5;have xq0:∀xw:WIn (fun v=>Below jB.heap.size jB v),xw.w.cell? ⟨b,o+k*3,none⟩=some (.int .i64 x.aeT):=ag q0;have xq1:∀xw:WIn (fun v=>Below jB.heap.size jB v),xw.w.cell? ⟨b,o+k*3+1,none⟩=some (.int .i64 x.x):=ag q1;have xq2:∀xw:WIn (fun v=>Below jB.heap.size jB v),xw.w.cell? ⟨b,o+k*3+2,none⟩=some (.int .i64 x.y):=ag q2;have nI:=hd0 (aC (W:=jB) (fun w' _=>aA w' (x.aeT) i0));have HA1:=hd0 (aC (W:=jB) (fun w' _=>aA w' (x.x) i1));have HA2:=hd0 (aC (W:=jB) (fun w' _=>aA w' (x.y) i2));generalize S17++(parts.take k).flatMap fQ=S21 at*
    generalize ah x.aeT=D0 at*
    generalize ah x.x=D1 at*
    generalize ah x.y=D2 at*
    have aef:∀w',(Op.stringOp .add ⟨S21.toArray⟩ ⟨D0.toArray⟩).run Tryd.prog w'= .ok (.string ⟨(S21++D0).toArray⟩) w':=bf S21 D0 (by omega);have adD:(S21++D0).length<=S21.length+D0.length:=aW _ _;generalize hS22:S21++D0=S22 at*
    have aaw:=hd0 hS22.symm;clear hS22;have adz:∀w',(Op.stringOp .add ⟨S22.toArray⟩ ⟨D1.toArray⟩).run Tryd.prog w'= .ok (.string ⟨(S22++D1).toArray⟩) w':=bf S22 D1 (by omega);have ad7:(S22++D1).length<=S22.length+D1.length:=aW _ _;generalize hS23:S22++D1=S23 at*
    have ab3:=hd0 hS23.symm;clear hS23;have adG:∀w',(Op.stringOp .add ⟨S23.toArray⟩ ⟨D2.toArray⟩).run Tryd.prog w'= .ok (.string ⟨(S23++D2).toArray⟩) w':=bf S23 D2 (by omega);have ac7:(S23++D2).length<=S23.length+D2.length:=aW _ _;generalize hS24:S23++D2=S24 at*
    have abo:=hd0 hS24.symm;clear hS24;clear hf hs0 hb q0 q1 q2;go_wp2_with fail
    refine bT (fun v=>Below jB.heap.size jB v) (by kernel_rfl) (by kernel_rfl) ((agE jB.heap.size jB).drew) ?_;have aQ:Nonempty (WIn (fun v=>Below jB.heap.size jB v)):=⟨⟨_,((agE jB.heap.size jB).drew)⟩⟩
    repeat(go_big_quiet_step (first|with_reducible exact nI.out _|with_reducible exact HA1.out _|with_reducible exact HA2.out _))
    refine wpQuiet_nil ?_;intro _ hw';obtain⟨xq,hw''⟩:=hw';subst hw'';have lq:Hid (Below W0.heap.size W0 xq.w):=hd0 (HX.out.trans (xq.ok.mono HX.out.size));generalize xq.w=wz at*
    go_wp2_with fail
    go_roundw
    case rel=>exact⟨k+1,by omega,by simp,by rw[hsn.out,abo.out,ab3.out,aaw.out],lq.out⟩
    case measure=>simp[intOf];omega
   obtain rfl:k=parts.length:=by omega
   rw[agK];have adM:(S17++parts.flatMap fQ).length<=S17.length+(parts.flatMap fQ).length:=aW _ _;generalize hS25:S17++parts.flatMap fQ=S25 at*
   have abh:=hd0 hS25.symm;clear hS25;have c6:jB.cell? ⟨w.heap.size,6,none⟩=some (.slice A6 eQ.length d6):=((aP HX.out).1 _ _ z0).trans (HK.out.cell 6);have adW:∀w',(Op.stringOp .add ⟨S25.toArray⟩ ⟨D4.toArray⟩).run Tryd.prog w'= .ok (.string ⟨(S25++D4).toArray⟩) w':=bf S25 D4 (by omega);have adC:(S25++D4).length<=S25.length+D4.length:=aW _ _;generalize hS26:S25++D4=S26 at*
   have aaI:=hd0 hS26.symm;clear hS26;go_wp2_with fail
   refine(HD4.out _).mono ?_;rintro e abA ⟨rfl,hbd⟩;have ZN:Hid (Below W0.heap.size W0 abA):=hd0 (HX.out.trans (hbd.mono HX.out.size));clear hbd c6 HX hb;go_wp2_with fail
   go_loopw [3,7] (fun s i wr=>∃k:Nat,k<=eQ.length/\i= .int .i64 k/\s= .string ⟨(S26++(eQ.take k).flatMap fU).toArray⟩/\Below W0.heap.size W0 wr) (fun _ i _=>eQ.length - (intOf i).toNat)
   case atStart=>exact⟨0,nz _,rfl,by simp,ZN.out⟩
   case round=>
    obtain⟨yf,rfl⟩:∃x,x=wr:=⟨_,rfl⟩
    obtain⟨k,hk,rfl,rfl,hb⟩:=hrel;have HX:=hd0 hb;have c6:yf.cell? ⟨w.heap.size,6,none⟩=some (.slice A6 eQ.length d6):=((aP HX.out).1 _ _ z0).trans (HK.out.cell 6);by_cases hlt:k<eQ.length
    ·
     obtain⟨b,o,x,rfl,-,hx,q0,q1,q2,q3,i0,i1,i2,i3⟩:=(H6.out.lw ae6.ok hb).anchor hlt;have hsn:Hid (S26++(eQ.take (k+1)).flatMap fU=S26++(eQ.take k).flatMap fU++ah x.kind++ah x.cls++ah x.x++ah x.y):=by show _=_;rw[dB hx.out];simp[fU]
     have hf:=eX (f:=fU) hx.out;simp only[fU,la,aV,ln] at hf;have hs0:(S26++(eQ.take k).flatMap fU).length<=S26.length+((eQ.take k).flatMap fU).length:=aW _ _;clear hx hb;go_wp2_with fail
     obtain⟨lW,hW2⟩:∃W2,yf.alloc (.cells #[.int .i64 x.kind,.int .i64 x.cls,.int .i64 x.x,.int .i64 x.y] 68)=W2:=⟨_,rfl⟩
     rw[hW2];have YR:Hid (Below W0.heap.size W0 lW):=by rw[<-hW2];exact hd0 (HX.out.alloc HX.out.size _)
     have b2:Bk lW yf.heap.size 68 #[.int .i64 x.kind,.int .i64 x.cls,.int .i64 x.x,.int .i64 x.y]:=by rw[<-hW2];exact Bk.new _ _ _
     clear hW2;have x0:∀xw:WIn (fun v=>Below lW.heap.size lW v),xw.w.cell? ⟨yf.heap.size,0,none⟩=some (.int .i64 x.kind):=ag (b2.cell 0);have x1:∀xw:WIn (fun v=>Below lW.heap.size lW v),xw.w.cell? ⟨yf.heap.size,1,none⟩=some (.int .i64 x.cls):=ag (b2.cell 1);have x2:∀xw:WIn (fun v=>Below lW.heap.size lW v),xw.w.cell? ⟨yf.heap.size,2,none⟩=some (.int .i64 x.x):=ag (b2.cell 2);have x3:∀xw:WIn (fun v=>Below lW.heap.size lW v),xw.w.cell? ⟨yf.heap.size,3,none⟩=some (.int .i64 x.y):=ag (b2.cell 3);clear b2;have nI:=hd0 (aC (W:=lW) (fun w' _=>aA w' (x.kind) i0));have HA1:=hd0 (aC (W:=lW) (fun w' _=>aA w' (x.cls) i1));have HA2:=hd0 (aC (W:=lW) (fun w' _=>aA w' (x.x) i2));have EH:=hd0 (aC (W:=lW) (fun w' _=>aA w' (x.y) i3));generalize S26++(eQ.take k).flatMap fU=S31 at*
     generalize ah x.kind=D0 at*
     generalize ah x.cls=D1 at*
     generalize ah x.x=D2 at*
     generalize ah x.y=D3 at*
     have adm:∀w',(Op.stringOp .add ⟨S31.toArray⟩ ⟨D0.toArray⟩).run Tryd.prog w'= .ok (.string ⟨(S31++D0).toArray⟩) w':=bf S31 D0 (by omega);have ac0:(S31++D0).length<=S31.length+D0.length:=aW _ _;generalize hS32:S31++D0=S32 at*
     have acb:=hd0 hS32.symm;clear hS32;have adK:∀w',(Op.stringOp .add ⟨S32.toArray⟩ ⟨D1.toArray⟩).run Tryd.prog w'= .ok (.string ⟨(S32++D1).toArray⟩) w':=bf S32 D1 (by omega);have adL:(S32++D1).length<=S32.length+D1.length:=aW _ _;generalize hS33:S32++D1=S33 at*
     have acn:=hd0 hS33.symm;clear hS33;have aeJ:∀w',(Op.stringOp .add ⟨S33.toArray⟩ ⟨D2.toArray⟩).run Tryd.prog w'= .ok (.string ⟨(S33++D2).toArray⟩) w':=bf S33 D2 (by omega);have adu:(S33++D2).length<=S33.length+D2.length:=aW _ _;generalize hS34:S33++D2=S34 at*
     have aby:=hd0 hS34.symm;clear hS34;have adc:∀w',(Op.stringOp .add ⟨S34.toArray⟩ ⟨D3.toArray⟩).run Tryd.prog w'= .ok (.string ⟨(S34++D3).toArray⟩) w':=bf S34 D3 (by omega);have adA:(S34++D3).length<=S34.length+D3.length:=aW _ _;generalize hS35:S34++D3=S35 at*
     have ab9:=hd0 hS35.symm;clear hS35;clear hf hs0;refine bT (fun v=>Below lW.heap.size lW v) (by kernel_rfl) (by kernel_rfl) ((agE lW.heap.size lW).drew) ?_;have aQ:Nonempty (WIn (fun v=>Below lW.heap.size lW v)):=⟨⟨_,((agE lW.heap.size lW).drew)⟩⟩
     repeat(go_big_quiet_step (first|with_reducible exact nI.out _|with_reducible exact HA1.out _|with_reducible exact HA2.out _|with_reducible exact EH.out _))
     refine wpQuiet_nil ?_;intro _ hw';obtain⟨xq,hw''⟩:=hw';subst hw'';have lq:Hid (Below W0.heap.size W0 xq.w):=hd0 (YR.out.trans (xq.ok.mono YR.out.size));generalize xq.w=wz at*
     go_wp2_with fail
     go_roundw
     case rel=>exact⟨k+1,by omega,by simp,by rw[hsn.out,ab9.out,aby.out,acn.out,acb.out],lq.out⟩
     case measure=>simp[intOf];omega
    obtain rfl:k=eQ.length:=by omega
    rw[agK];have aep:(S26++eQ.flatMap fU).length<=S26.length+(eQ.flatMap fU).length:=aW _ _;generalize hS36:S26++eQ.flatMap fU=S36 at*
    have ab7:=hd0 hS36.symm;clear hS36;have c7:yf.cell? ⟨w.heap.size,7,none⟩=some (.slice A7 ae3.length d7):=((aP HX.out).1 _ _ z0).trans (HK.out.cell 7);have adU:∀w',(Op.stringOp .add ⟨S36.toArray⟩ ⟨D5.toArray⟩).run Tryd.prog w'= .ok (.string ⟨(S36++D5).toArray⟩) w':=bf S36 D5 (by omega);have aeM:(S36++D5).length<=S36.length+D5.length:=aW _ _;generalize hS37:S36++D5=S37 at*
    have aa5:=hd0 hS37.symm;clear hS37;go_wp2_with fail
    refine(HD5.out _).mono ?_;rintro e ace ⟨rfl,hbd⟩;have ZG:Hid (Below W0.heap.size W0 ace):=hd0 (HX.out.trans (hbd.mono HX.out.size));clear hbd c7 HX hb;go_wp2_with fail
    go_loopw [3,9] (fun s i wr=>∃k:Nat,k<=ae3.length/\i= .int .i64 k/\s= .string ⟨(S37++(ae3.take k).flatMap ji).toArray⟩/\Below W0.heap.size W0 wr) (fun _ i _=>ae3.length - (intOf i).toNat)
    case atStart=>exact⟨0,nz _,rfl,by simp,ZG.out⟩
    case round=>
     obtain⟨wY,rfl⟩:∃x,x=wr:=⟨_,rfl⟩
     obtain⟨k,hk,rfl,rfl,hb⟩:=hrel;have HX:=hd0 hb;have c7:wY.cell? ⟨w.heap.size,7,none⟩=some (.slice A7 ae3.length d7):=((aP HX.out).1 _ _ z0).trans (HK.out.cell 7);by_cases hlt:k<ae3.length
     ·
      obtain⟨b,o,x,rfl,-,hx,q0,q1,q2,q3,i0,i1,i2,i3⟩:=(H7.out.lw afc.ok hb).delta hlt;have hsn:Hid (S37++(ae3.take (k+1)).flatMap ji=S37++(ae3.take k).flatMap ji++ah x.region++ah x.point++ah x.x++ah x.y):=by show _=_;rw[dB hx.out];simp[ji]
      have hf:=eX (f:=ji) hx.out;simp only[ji,la,aV,ln] at hf;have hs0:(S37++(ae3.take k).flatMap ji).length<=S37.length+((ae3.take k).flatMap ji).length:=aW _ _;clear hx hb;go_wp2_with fail
      obtain⟨lX,hW2⟩:∃W2,wY.alloc (.cells #[.int .i64 x.region,.int .i64 x.point,.int .i64 x.x,.int .i64 x.y] 70)=W2:=⟨_,rfl⟩
      rw[hW2];have YH:Hid (Below W0.heap.size W0 lX):=by rw[<-hW2];exact hd0 (HX.out.alloc HX.out.size _)
      have b2:Bk lX wY.heap.size 70 #[.int .i64 x.region,.int .i64 x.point,.int .i64 x.x,.int .i64 x.y]:=by rw[<-hW2];exact Bk.new _ _ _
      clear hW2;have x0:∀xw:WIn (fun v=>Below lX.heap.size lX v),xw.w.cell? ⟨wY.heap.size,0,none⟩=some (.int .i64 x.region):=ag (b2.cell 0);have x1:∀xw:WIn (fun v=>Below lX.heap.size lX v),xw.w.cell? ⟨wY.heap.size,1,none⟩=some (.int .i64 x.point):=ag (b2.cell 1);have x2:∀xw:WIn (fun v=>Below lX.heap.size lX v),xw.w.cell? ⟨wY.heap.size,2,none⟩=some (.int .i64 x.x):=ag (b2.cell 2);have x3:∀xw:WIn (fun v=>Below lX.heap.size lX v),xw.w.cell? ⟨wY.heap.size,3,none⟩=some (.int .i64 x.y):=ag (b2.cell 3);clear b2;have nI:=hd0 (aC (W:=lX) (fun w' _=>aA w' (x.region) i0));have HA1:=hd0 (aC (W:=lX) (fun w' _=>aA w' (x.point) i1));have HA2:=hd0 (aC (W:=lX) (fun w' _=>aA w' (x.x) i2));have EH:=hd0 (aC (W:=lX) (fun w' _=>aA w' (x.y) i3));generalize S37++(ae3.take k).flatMap ji=S42 at*
      generalize ah x.region=D0 at*
      generalize ah x.point=D1 at*
      generalize ah x.x=D2 at*
      generalize ah x.y=D3 at*
      have aee:∀w',(Op.stringOp .add ⟨S42.toArray⟩ ⟨D0.toArray⟩).run Tryd.prog w'= .ok (.string ⟨(S42++D0).toArray⟩) w':=bf S42 D0 (by omega);have aeq:(S42++D0).length<=S42.length+D0.length:=aW _ _;generalize hS43:S42++D0=S43 at*
      have aaN:=hd0 hS43.symm;clear hS43;have ac4:∀w',(Op.stringOp .add ⟨S43.toArray⟩ ⟨D1.toArray⟩).run Tryd.prog w'= .ok (.string ⟨(S43++D1).toArray⟩) w':=bf S43 D1 (by omega);have adR:(S43++D1).length<=S43.length+D1.length:=aW _ _;generalize hS44:S43++D1=S44 at*
      have aba:=hd0 hS44.symm;clear hS44;have adf:∀w',(Op.stringOp .add ⟨S44.toArray⟩ ⟨D2.toArray⟩).run Tryd.prog w'= .ok (.string ⟨(S44++D2).toArray⟩) w':=bf S44 D2 (by omega);have aeE:(S44++D2).length<=S44.length+D2.length:=aW _ _;generalize hS45:S44++D2=S45 at*
      have aa0:=hd0 hS45.symm;clear hS45;have adP:∀w',(Op.stringOp .add ⟨S45.toArray⟩ ⟨D3.toArray⟩).run Tryd.prog w'= .ok (.string ⟨(S45++D3).toArray⟩) w':=bf S45 D3 (by omega);have adF:(S45++D3).length<=S45.length+D3.length:=aW _ _;generalize hS46:S45++D3=S46 at*
      have aaZ:=hd0 hS46.symm;clear hS46;clear hf hs0;refine bT (fun v=>Below lX.heap.size lX v) (by kernel_rfl) (by kernel_rfl) ((agE lX.heap.size lX).drew) ?_;have aQ:Nonempty (WIn (fun v=>Below lX.heap.size lX v)):=⟨⟨_,((agE lX.heap.size lX).drew)⟩⟩
      repeat(go_big_quiet_step (first|with_reducible exact nI.out _|with_reducible exact HA1.out _|with_reducible exact HA2.out _|with_reducible exact EH.out _))
      refine wpQuiet_nil ?_;intro _ hw';obtain⟨xq,hw''⟩:=hw';subst hw'';have lq:Hid (Below W0.heap.size W0 xq.w):=hd0 (YH.out.trans (xq.ok.mono YH.out.size));generalize xq.w=wz at*
      go_wp2_with fail
      go_roundw
      case rel=>exact⟨k+1,by omega,by simp,by rw[hsn.out,aaZ.out,aa0.out,aba.out,aaN.out],lq.out⟩
      case measure=>simp[intOf];omega
     obtain rfl:k=ae3.length:=by omega
     rw[agK];have adb:(S37++ae3.flatMap ji).length<=S37.length+(ae3.flatMap ji).length:=aW _ _;generalize hS47:S37++ae3.flatMap ji=S47 at*
     have aaq:=hd0 hS47.symm;clear hS47;have r8:=((aP HX.out).1 _ _ z0).trans (HK.out.cell 8);have c8:wY.cell? ⟨w.heap.size,8,none⟩=some (.slice A8 hint.length d8):=((aP HX.out).1 _ _ z0).trans (HK.out.cell 8);clear r8;have ac1:∀w',(Op.stringOp .add ⟨S47.toArray⟩ ⟨H.toArray⟩).run Tryd.prog w'= .ok (.string ⟨(S47++H).toArray⟩) w':=bf S47 H (by omega);have ada:(S47++H).length<=S47.length+H.length:=aW _ _;generalize hS48:S47++H=S48 at*
     have aaK:=hd0 hS48.symm;clear hS48;go_wp2_with fail
     refine(HP.out _ _ _ (H8.out.lw ae9.ok HX.out)).mono ?_;rintro e wy ⟨rfl,hby⟩;have WX:Hid (Below W0.heap.size W0 wy):=hd0 (HX.out.trans (hby.mono HX.out.size));clear hby HP;go_wp2_with fail
     go_ret
     exact⟨by rw[aaK.out,aaq.out,aa5.out,ab7.out,aaI.out,abh.out,abD.out,aaY.out,abq.out,HS7.out,HS6.out,Bj.out,HS4.out,HS3.out];rfl,HW.out.trans (WX.out.mono HW.out.size)⟩
end Go.Proofs.YtkijckccfookeaaDoor
