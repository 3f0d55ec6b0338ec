/- Lemmas. -/
import Derived.Test.YtkijckccfookeaaGreatDoorU16
set_option linter.unusedVariables false
set_option linter.unusedSimpArgs false
set_option maxRecDepth 100000
set_option maxHeartbeats 32000000
namespace Go.Proofs.YtkijckccfookeaaGreatDoor
open Go.RowKit
theorem Rk (p:Pt):1<=(qV p).length:=by have:=fA p.x;unfold qV;rw[la];omega
theorem KF (p:Part):1<=(jv p).length:=by have:=fA p.akY;unfold jv;rw[la];omega
theorem Kq (p:ak7):1<=(jw p).length:=by have:=fA p.kind;unfold jw;rw[la];omega
theorem Nh (p:Delta):1<=(lU p).length:=by have:=fA p.region;unfold lU;rw[la];omega
theorem Xl (w:World)(g:akN)(A3 A4 A5 A6 A7 A8:Option Addr)(d3 d4 d5 d6 d7 d8:Nat)(i1:I64 g.advance)(h3:Sl PtR 3 w (Lw w) A3 g.points)(h4:Sl akL 1 w (Lw w) A4 g.ends)(h5:Sl ala 3 w (Lw w) A5 g.parts)(h6:Sl akX 4 w (Lw w) A6 g.anchors)(h7:Sl ak2 4 w (Lw w) A7 g.deltas)(h8:Sl akZ 2 w (Lw w) A8 g.hint)(hlen:(eH g).length<=100000000000000):
  Calls Tryz.prog 100 #[.agg #[.string ⟨g.name.toArray⟩,.int .i64 g.advance,.bool g.mark,.slice A3 g.points.length d3,.slice A4 g.ends.length d4,.slice A5 g.parts.length d5,.slice A6 g.anchors.length d6,.slice A7 g.deltas.length d7,.slice A8 g.hint.length d8]] w fun e w'=>e= .returned (.string ⟨(eH g).toArray⟩)/\Below w.heap.size w w':=by
 obtain⟨nm,adv,mk,pts,ends,parts,gK,alh,hint⟩:=g;have hgl:eH ⟨nm,adv,mk,pts,ends,parts,gK,alh,hint⟩=ai (nm.length:Int)++nm++[32]++ai adv++ww mk++ai (pts.length:Int)++pts.flatMap qV++rowB ends++ai (parts.length:Int)++parts.flatMap jv++ai (gK.length:Int)++gK.flatMap jw++ai (alh.length:Int)++alh.flatMap lU++fG hint:=by simp[eH,rY,aaQ,OZ,Pq,UY]
 rw[hgl] at hlen ⊢;clear hgl;simp only[la,aT,ln] at hlen;simp only at i1 h3 h4 h5 h6 h7 h8 ⊢;have n0:I64 (nm.length:Int):=⟨by omega,by omega⟩
 have n3:I64 (pts.length:Int):=lg qV Rk pts (by omega);have ln3:pts.length<=100000000000000:=nt (fB qV Rk pts) (by omega);have n5:I64 (parts.length:Int):=lg jv KF parts (by omega);have ln5:parts.length<=100000000000000:=nt (fB jv KF parts) (by omega);have n6:I64 (gK.length:Int):=lg jw Kq gK (by omega);have ln6:gK.length<=100000000000000:=nt (fB jw Kq gK) (by omega);have n7:I64 (alh.length:Int):=lg lU Nh alh (by omega);have ln7:alh.length<=100000000000000:=nt (fB lU Nh alh) (by omega);have H3:=hd0 h3;have H4:=hd0 h4;have H5:=hd0 h5;have H6:=hd0 h6;have H7:=hd0 h7;have H8:=hd0 h8;have HE:=hd0 (show(rowB ends).length<=100000000000000 by omega);have HC:=hd0 (show(fG hint).length<=100000000000000 by omega);have HD0:=hd0 (fun w'=>aF w' _ n0);have HD1:=hd0 (fun w'=>aF w' _ i1);have HD2:=hd0 (fun w'=>aF w' _ n3);have HD3:=hd0 (fun w'=>aF w' _ n5);have HD4:=hd0 (fun w'=>aF w' _ n6);have HD5:=hd0 (fun w'=>aF w' _ n7);have HY:=hd0 (fun w'=>Ny w' mk);have HR:=hd0 (fun w' c A (h:Sl akL 1 w' (Lw w') A ends)=>yO w' A c ends h HE.out);have HP:=hd0 (fun w' c A (h:Sl akZ 2 w' (Lw w') A hint)=>Nj w' A c hint h HC.out);clear h3 h4 h5 h6 h7 h8 n0 i1 n3 n5 n6 n7 HE HC;generalize ai (nm.length:Int)=D0 at*
 generalize ai adv=D1 at*
 generalize ww mk=Y at*
 generalize ai (pts.length:Int)=D2 at*
 generalize rowB ends=E at*
 generalize ai (parts.length:Int)=D3 at*
 generalize ai (gK.length:Int)=D4 at*
 generalize ai (alh.length:Int)=D5 at*
 generalize fG hint=H at*
 go_enter Tryz.func100,Tryz.ntmps100
 go_wp2_with fail
 obtain⟨W0,hW0⟩:∃W0,w.alloc (.cells #[.string ⟨nm.toArray⟩,.int .i64 adv,.bool mk,.slice A3 pts.length d3,.slice A4 ends.length d4,.slice A5 parts.length d5,.slice A6 gK.length d6,.slice A7 alh.length d7,.slice A8 hint.length d8] 59)=W0:=⟨_,rfl⟩
 rw[hW0];have HW:Hid (Below w.heap.size w W0):=by rw[<-hW0];exact hd0 ((ant _ _).alloc (af _) _)
 have HK:Hid (Bk W0 w.heap.size 59 #[.string ⟨nm.toArray⟩,.int .i64 adv,.bool mk,.slice A3 pts.length d3,.slice A4 ends.length d4,.slice A5 parts.length d5,.slice A6 gK.length d6,.slice A7 alh.length d7,.slice A8 hint.length d8]):=by rw[<-hW0];exact hd0 (Bk.new _ _ _)
 have z0:w.heap.size<W0.heap.size:=HK.out.lt;clear hW0;replace H3:=hd0 (H3.out.lw PtR.ok HW.out);replace H4:=hd0 (H4.out.lw akL.ok HW.out);replace H5:=hd0 (H5.out.lw ala.ok HW.out);replace H6:=hd0 (H6.out.lw akX.ok HW.out);replace H7:=hd0 (H7.out.lw ak2.ok HW.out);replace H8:=hd0 (H8.out.lw akZ.ok HW.out);have x0:∀xw:WIn (fun v=>Below W0.heap.size W0 v),xw.w.cell? ⟨w.heap.size,0,none⟩=some (.string ⟨nm.toArray⟩):=aC (HK.out.cell 0);have x1:∀xw:WIn (fun v=>Below W0.heap.size W0 v),xw.w.cell? ⟨w.heap.size,1,none⟩=some (.int .i64 adv):=aC (HK.out.cell 1);have x2:∀xw:WIn (fun v=>Below W0.heap.size W0 v),xw.w.cell? ⟨w.heap.size,2,none⟩=some (.bool mk):=aC (HK.out.cell 2);have x3:∀xw:WIn (fun v=>Below W0.heap.size W0 v),xw.w.cell? ⟨w.heap.size,3,none⟩=some (.slice A3 pts.length d3):=aC (HK.out.cell 3);have rS3:∀w',(Op.stringOp .add ⟨D0.toArray⟩ ⟨nm.toArray⟩).run Tryz.prog w'= .ok (.string ⟨(D0++nm).toArray⟩) w':=bF D0 nm (by omega);have lS3:(D0++nm).length<=D0.length+nm.length:=bu _ _;generalize hS3:D0++nm=S3 at*
 have HS3:=hd0 hS3.symm;clear hS3;have rS4:∀w',(Op.stringOp .add ⟨S3.toArray⟩ ⟨#[32]⟩).run Tryz.prog w'= .ok (.string ⟨(S3++[32]).toArray⟩) w':=bF S3 [32] (by simp only[aT,ln];omega);have lS4:(S3++[32]).length<=S3.length+1:=bu _ _;generalize hS4:S3++[32]=S4 at*
 have HS4:=hd0 hS4.symm;clear hS4;have rS5:∀w',(Op.stringOp .add ⟨S4.toArray⟩ ⟨D1.toArray⟩).run Tryz.prog w'= .ok (.string ⟨(S4++D1).toArray⟩) w':=bF S4 D1 (by omega);have lS5:(S4++D1).length<=S4.length+D1.length:=bu _ _;generalize hS5:S4++D1=S5 at*
 have HS5:=hd0 hS5.symm;clear hS5;have rS6:∀w',(Op.stringOp .add ⟨S5.toArray⟩ ⟨Y.toArray⟩).run Tryz.prog w'= .ok (.string ⟨(S5++Y).toArray⟩) w':=bF S5 Y (by omega);have lS6:(S5++Y).length<=S5.length+Y.length:=bu _ _;generalize hS6:S5++Y=S6 at*
 have HS6:=hd0 hS6.symm;clear hS6;have rS7:∀w',(Op.stringOp .add ⟨S6.toArray⟩ ⟨D2.toArray⟩).run Tryz.prog w'= .ok (.string ⟨(S6++D2).toArray⟩) w':=bF S6 D2 (by omega);have lS7:(S6++D2).length<=S6.length+D2.length:=bu _ _;generalize hS7:S6++D2=S7 at*
 have HS7:=hd0 hS7.symm;clear hS7;have Di:=hd0 (aP (W:=W0) (fun w' _=>HD0.out w'));have Dp:=hd0 (aP (W:=W0) (fun w' _=>HD1.out w'));have adn:=hd0 (aP (W:=W0) (fun w' _=>HD2.out w'));have Xy:=hd0 (aP (W:=W0) (fun w' _=>HY.out w'));refine bW (fun v=>Below W0.heap.size W0 v) (by kernel_rfl) (by kernel_rfl) ((ant W0.heap.size W0).drew) ?_;have bT:Nonempty (WIn (fun v=>Below W0.heap.size W0 v)):=⟨⟨_,((ant W0.heap.size W0).drew)⟩⟩
 repeat(go_big_quiet_step (first|with_reducible exact Di.out _|with_reducible exact Dp.out _|with_reducible exact Xy.out _|with_reducible exact adn.out _))
 refine wpQuiet_nil ?_;intro _ hw';obtain⟨xq,hw''⟩:=hw';subst hw'';have WU:Hid (Below W0.heap.size W0 xq.w):=hd0 xq.ok;generalize xq.w=wa at*
 clear x0 x1 x2 x3 Di Dp adn Xy bT rS3 rS4 rS5 rS6 rS7;go_wp2_with fail
 go_loopw [3,4] (fun s i wr=>∃k:Nat,k<=pts.length/\i= .int .i64 k/\s= .string ⟨(S7++(pts.take k).flatMap qV).toArray⟩/\Below W0.heap.size W0 wr) (fun _ i _=>pts.length - (intOf i).toNat)
 case atStart=>exact⟨0,nz _,rfl,by simp,WU.out⟩
 case round=>
  obtain⟨ry,rfl⟩:∃x,x=wr:=⟨_,rfl⟩
  obtain⟨k,hk,rfl,rfl,hb⟩:=hrel;have HX:=hd0 hb;have c3:ry.cell? ⟨w.heap.size,3,none⟩=some (.slice A3 pts.length d3):=((aj HX.out).1 _ _ z0).trans (HK.out.cell 3);by_cases hlt:k<pts.length
  ·
   obtain⟨b,o,x,rfl,-,hx,q0,q1,q2,i0,i1⟩:=(H3.out.lw PtR.ok hb).pt hlt;have hsn:Hid (S7++(pts.take (k+1)).flatMap qV=S7++(pts.take k).flatMap qV++ai x.x++ai x.y++ww x.on):=by show _=_;rw[dU hx.out];simp[qV]
   have hf:=gZ (f:=qV) hx.out;simp only[qV,la,aT,ln] at hf;have hs0:(S7++(pts.take k).flatMap qV).length<=S7.length+((pts.take k).flatMap qV).length:=bu _ _;clear hx hb;go_wp2_with fail
   obtain⟨sD,hW2⟩:∃W2,ry.alloc (.cells #[.int .i64 x.x,.int .i64 x.y,.bool x.on] 139)=W2:=⟨_,rfl⟩
   rw[hW2];have aeD:Hid (Below W0.heap.size W0 sD):=by rw[<-hW2];exact hd0 (HX.out.alloc HX.out.size _)
   have b2:Bk sD ry.heap.size 139 #[.int .i64 x.x,.int .i64 x.y,.bool x.on]:=by rw[<-hW2];exact Bk.new _ _ _
   clear hW2;have x0:∀xw:WIn (fun v=>Below sD.heap.size sD v),xw.w.cell? ⟨ry.heap.size,0,none⟩=some (.int .i64 x.x):=aC (b2.cell 0);have x1:∀xw:WIn (fun v=>Below sD.heap.size sD v),xw.w.cell? ⟨ry.heap.size,1,none⟩=some (.int .i64 x.y):=aC (b2.cell 1);have x2:∀xw:WIn (fun v=>Below sD.heap.size sD v),xw.w.cell? ⟨ry.heap.size,2,none⟩=some (.bool x.on):=aC (b2.cell 2);clear b2;have tu:=hd0 (aP (W:=sD) (fun w' _=>aF w' (x.x) i0));have HA1:=hd0 (aP (W:=sD) (fun w' _=>aF w' (x.y) i1));have HA2:=hd0 (aP (W:=sD) (fun w' _=>Ny w' x.on));generalize S7++(pts.take k).flatMap qV=S11 at*
   generalize ai x.x=D0 at*
   generalize ai x.y=D1 at*
   generalize ww x.on=D2 at*
   have ajT:∀w',(Op.stringOp .add ⟨S11.toArray⟩ ⟨D0.toArray⟩).run Tryz.prog w'= .ok (.string ⟨(S11++D0).toArray⟩) w':=bF S11 D0 (by omega);have ajA:(S11++D0).length<=S11.length+D0.length:=bu _ _;generalize hS12:S11++D0=S12 at*
   have agE:=hd0 hS12.symm;clear hS12;have akq:∀w',(Op.stringOp .add ⟨S12.toArray⟩ ⟨D1.toArray⟩).run Tryz.prog w'= .ok (.string ⟨(S12++D1).toArray⟩) w':=bF S12 D1 (by omega);have akC:(S12++D1).length<=S12.length+D1.length:=bu _ _;generalize hS13:S12++D1=S13 at*
   have ahn:=hd0 hS13.symm;clear hS13;have aks:∀w',(Op.stringOp .add ⟨S13.toArray⟩ ⟨D2.toArray⟩).run Tryz.prog w'= .ok (.string ⟨(S13++D2).toArray⟩) w':=bF S13 D2 (by omega);have ajp:(S13++D2).length<=S13.length+D2.length:=bu _ _;generalize hS14:S13++D2=S14 at*
   have ahj:=hd0 hS14.symm;clear hS14;clear hf hs0;refine bW (fun v=>Below sD.heap.size sD v) (by kernel_rfl) (by kernel_rfl) ((ant sD.heap.size sD).drew) ?_;have bT:Nonempty (WIn (fun v=>Below sD.heap.size sD v)):=⟨⟨_,((ant sD.heap.size sD).drew)⟩⟩
   repeat(go_big_quiet_step (first|with_reducible exact tu.out _|with_reducible exact HA1.out _|with_reducible exact HA2.out _))
   refine wpQuiet_nil ?_;intro _ hw';obtain⟨xq,hw''⟩:=hw';subst hw'';have oI:Hid (Below W0.heap.size W0 xq.w):=hd0 (aeD.out.trans (xq.ok.mono aeD.out.size));generalize xq.w=wz at*
   go_wp2_with fail
   go_roundw
   case rel=>exact⟨k+1,by omega,by simp,by rw[hsn.out,ahj.out,ahn.out,agE.out],oI.out⟩
   case measure=>simp[intOf];omega
  obtain rfl:k=pts.length:=by omega
  rw[anA];have akn:(S7++pts.flatMap qV).length<=S7.length+(pts.flatMap qV).length:=bu _ _;generalize hS15:S7++pts.flatMap qV=S15 at*
  have ahq:=hd0 hS15.symm;clear hS15;have x4:∀xw:WIn (fun v=>Below ry.heap.size ry v),xw.w.cell? ⟨w.heap.size,4,none⟩=some (.slice A4 ends.length d4):=aC (((aj HX.out).1 _ _ z0).trans (HK.out.cell 4));have x5:∀xw:WIn (fun v=>Below ry.heap.size ry v),xw.w.cell? ⟨w.heap.size,5,none⟩=some (.slice A5 parts.length d5):=aC (((aj HX.out).1 _ _ z0).trans (HK.out.cell 5));have Yj:=hd0 (aP (W:=ry) (fun w' hw'=>HR.out w' d4 A4 ((H4.out.lw akL.ok HX.out).lw akL.ok hw')));have adr:=hd0 (aP (W:=ry) (fun w' _=>HD3.out w'));have agY:∀w',(Op.stringOp .add ⟨S15.toArray⟩ ⟨E.toArray⟩).run Tryz.prog w'= .ok (.string ⟨(S15++E).toArray⟩) w':=bF S15 E (by omega);have akg:(S15++E).length<=S15.length+E.length:=bu _ _;generalize hS16:S15++E=S16 at*
  have ag0:=hd0 hS16.symm;clear hS16;have agS:∀w',(Op.stringOp .add ⟨S16.toArray⟩ ⟨D3.toArray⟩).run Tryz.prog w'= .ok (.string ⟨(S16++D3).toArray⟩) w':=bF S16 D3 (by omega);have ajx:(S16++D3).length<=S16.length+D3.length:=bu _ _;generalize hS17:S16++D3=S17 at*
  have agc:=hd0 hS17.symm;clear hS17;go_wp2_with fail
  refine bW (fun v=>Below ry.heap.size ry v) (by kernel_rfl) (by kernel_rfl) ((ant ry.heap.size ry).drew) ?_;have bT:Nonempty (WIn (fun v=>Below ry.heap.size ry v)):=⟨⟨_,((ant ry.heap.size ry).drew)⟩⟩
  repeat(go_big_quiet_step (first|with_reducible exact Yj.out _|with_reducible exact adr.out _))
  refine wpQuiet_nil ?_;intro _ hw';obtain⟨xq,hw''⟩:=hw';subst hw'';have afO:Hid (Below W0.heap.size W0 xq.w):=hd0 (HX.out.trans (xq.ok.mono HX.out.size));generalize xq.w=wb18 at*
  clear x4 x5 Yj adr bT agY agS HX hb;go_wp2_with fail
  go_loopw [3,6] (fun s i wr=>∃k:Nat,k<=parts.length/\i= .int .i64 k/\s= .string ⟨(S17++(parts.take k).flatMap jv).toArray⟩/\Below W0.heap.size W0 wr) (fun _ i _=>parts.length - (intOf i).toNat)
  case atStart=>exact⟨0,nz _,rfl,by simp,afO.out⟩
  case round=>
   obtain⟨lD,rfl⟩:∃x,x=wr:=⟨_,rfl⟩
   obtain⟨k,hk,rfl,rfl,hb⟩:=hrel;have HX:=hd0 hb;have c5:lD.cell? ⟨w.heap.size,5,none⟩=some (.slice A5 parts.length d5):=((aj HX.out).1 _ _ z0).trans (HK.out.cell 5);by_cases hlt:k<parts.length
   ·
    obtain⟨b,o,x,rfl,-,hx,q0,q1,q2,i0,i1,i2⟩:=(H5.out.lw ala.ok hb).part hlt;have hsn:Hid (S17++(parts.take (k+1)).flatMap jv=S17++(parts.take k).flatMap jv++ai x.akY++ai x.x++ai x.y):=by show _=_;rw[dU hx.out];simp[jv]
    have hf:=gZ (f:=jv) hx.out;simp only[jv,la,aT,ln] at hf;have hs0:(S17++(parts.take k).flatMap jv).length<=S17.length+((parts.take k).flatMap jv).length:=bu _ _;clear hx;have xc:∀xw:WIn (fun v=>Below lD.heap.size lD v),xw.w.cell? ⟨w.heap.size,5,none⟩=some (.slice (some ⟨b,o,none⟩) parts.length d5):=aC c5;have xq0:∀xw:WIn (fun v=>Below lD.heap.size lD v),xw.w.cell? ⟨b,o+k*3,none⟩=some (.int .i64 x.akY):=aC q0;have xq1:∀xw:WIn (fun v=>Below lD.heap.size lD v),xw.w.cell? ⟨b,o+k*3+1,none⟩=some (.int .i64 x.x):=aC q1;have xq2:∀xw:WIn (fun v=>Below lD.heap.size lD v),xw.w.cell? ⟨b,o+k*3+2,none⟩=some (.int .i64 x.y):=aC q2;have tu:=hd0 (aP (W:=lD) (fun w' _=>aF w' (x.akY) i0));have HA1:=hd0 (aP (W:=lD) (fun w' _=>aF w' (x.x) i1));have HA2:=hd0 (aP (W:=lD) (fun w' _=>aF w' (x.y) i2));generalize S17++(parts.take k).flatMap jv=S21 at*
    generalize ai x.akY=D0 at*
    generalize ai x.x=D1 at*
    generalize ai x.y=D2 at*
    have ajc:∀w',(Op.stringOp .add ⟨S21.toArray⟩ ⟨D0.toArray⟩).run Tryz.prog w'= .ok (.string ⟨(S21++D0).toArray⟩) w':=bF S21 D0 (by omega);have akd:(S21++D0).length<=S21.length+D0.length:=bu _ _;generalize hS22:S21++D0=S22 at*
    have ag7:=hd0 hS22.symm;clear hS22;have akh:∀w',(Op.stringOp .add ⟨S22.toArray⟩ ⟨D1.toArray⟩).run Tryz.prog w'= .ok (.string ⟨(S22++D1).toArray⟩) w':=bF S22 D1 (by omega);have ajK:(S22++D1).length<=S22.length+D1.length:=bu _ _;generalize hS23:S22++D1=S23 at*
    have ahd:=hd0 hS23.symm;clear hS23;have aji:∀w',(Op.stringOp .add ⟨S23.toArray⟩ ⟨D2.toArray⟩).run Tryz.prog w'= .ok (.string ⟨(S23++D2).toArray⟩) w':=bF S23 D2 (by omega);have ajZ:(S23++D2).length<=S23.length+D2.length:=bu _ _;generalize hS24:S23++D2=S24 at*
    have ags:=hd0 hS24.symm;clear hS24;clear hf hs0 hb q0 q1 q2;go_wp2_with fail
    refine bW (fun v=>Below lD.heap.size lD v) (by kernel_rfl) (by kernel_rfl) ((ant lD.heap.size lD).drew) ?_;have bT:Nonempty (WIn (fun v=>Below lD.heap.size lD v)):=⟨⟨_,((ant lD.heap.size lD).drew)⟩⟩
    repeat(go_big_quiet_step (first|with_reducible exact tu.out _|with_reducible exact HA1.out _|with_reducible exact HA2.out _))
    refine wpQuiet_nil ?_;intro _ hw';obtain⟨xq,hw''⟩:=hw';subst hw'';have oI:Hid (Below W0.heap.size W0 xq.w):=hd0 (HX.out.trans (xq.ok.mono HX.out.size));generalize xq.w=wz at*
    go_wp2_with fail
    go_roundw
    case rel=>exact⟨k+1,by omega,by simp,by rw[hsn.out,ags.out,ahd.out,ag7.out],oI.out⟩
    case measure=>simp[intOf];omega
   obtain rfl:k=parts.length:=by omega
   rw[anA];have ajG:(S17++parts.flatMap jv).length<=S17.length+(parts.flatMap jv).length:=bu _ _;generalize hS25:S17++parts.flatMap jv=S25 at*
   have agf:=hd0 hS25.symm;clear hS25;have c6:lD.cell? ⟨w.heap.size,6,none⟩=some (.slice A6 gK.length d6):=((aj HX.out).1 _ _ z0).trans (HK.out.cell 6);have akE:∀w',(Op.stringOp .add ⟨S25.toArray⟩ ⟨D4.toArray⟩).run Tryz.prog w'= .ok (.string ⟨(S25++D4).toArray⟩) w':=bF S25 D4 (by omega);have ai6:(S25++D4).length<=S25.length+D4.length:=bu _ _;generalize hS26:S25++D4=S26 at*
   have ag1:=hd0 hS26.symm;clear hS26;go_wp2_with fail
   refine(HD4.out _).mono ?_;rintro e ahk ⟨rfl,hbd⟩;have afk:Hid (Below W0.heap.size W0 ahk):=hd0 (HX.out.trans (hbd.mono HX.out.size));clear hbd c6 HX hb;go_wp2_with fail
   go_loopw [3,7] (fun s i wr=>∃k:Nat,k<=gK.length/\i= .int .i64 k/\s= .string ⟨(S26++(gK.take k).flatMap jw).toArray⟩/\Below W0.heap.size W0 wr) (fun _ i _=>gK.length - (intOf i).toNat)
   case atStart=>exact⟨0,nz _,rfl,by simp,afk.out⟩
   case round=>
    obtain⟨BM,rfl⟩:∃x,x=wr:=⟨_,rfl⟩
    obtain⟨k,hk,rfl,rfl,hb⟩:=hrel;have HX:=hd0 hb;have c6:BM.cell? ⟨w.heap.size,6,none⟩=some (.slice A6 gK.length d6):=((aj HX.out).1 _ _ z0).trans (HK.out.cell 6);by_cases hlt:k<gK.length
    ·
     obtain⟨b,o,x,rfl,-,hx,q0,q1,q2,q3,i0,i1,i2,i3⟩:=(H6.out.lw akX.ok hb).anchor hlt;have hsn:Hid (S26++(gK.take (k+1)).flatMap jw=S26++(gK.take k).flatMap jw++ai x.kind++ai x.cls++ai x.x++ai x.y):=by show _=_;rw[dU hx.out];simp[jw]
     have hf:=gZ (f:=jw) hx.out;simp only[jw,la,aT,ln] at hf;have hs0:(S26++(gK.take k).flatMap jw).length<=S26.length+((gK.take k).flatMap jw).length:=bu _ _;clear hx hb;go_wp2_with fail
     obtain⟨oZ,hW2⟩:∃W2,BM.alloc (.cells #[.int .i64 x.kind,.int .i64 x.cls,.int .i64 x.x,.int .i64 x.y] 89)=W2:=⟨_,rfl⟩
     rw[hW2];have aeY:Hid (Below W0.heap.size W0 oZ):=by rw[<-hW2];exact hd0 (HX.out.alloc HX.out.size _)
     have b2:Bk oZ BM.heap.size 89 #[.int .i64 x.kind,.int .i64 x.cls,.int .i64 x.x,.int .i64 x.y]:=by rw[<-hW2];exact Bk.new _ _ _
     clear hW2;have x0:∀xw:WIn (fun v=>Below oZ.heap.size oZ v),xw.w.cell? ⟨BM.heap.size,0,none⟩=some (.int .i64 x.kind):=aC (b2.cell 0);have x1:∀xw:WIn (fun v=>Below oZ.heap.size oZ v),xw.w.cell? ⟨BM.heap.size,1,none⟩=some (.int .i64 x.cls):=aC (b2.cell 1);have x2:∀xw:WIn (fun v=>Below oZ.heap.size oZ v),xw.w.cell? ⟨BM.heap.size,2,none⟩=some (.int .i64 x.x):=aC (b2.cell 2);have x3:∀xw:WIn (fun v=>Below oZ.heap.size oZ v),xw.w.cell? ⟨BM.heap.size,3,none⟩=some (.int .i64 x.y):=aC (b2.cell 3);clear b2;have tu:=hd0 (aP (W:=oZ) (fun w' _=>aF w' (x.kind) i0));have HA1:=hd0 (aP (W:=oZ) (fun w' _=>aF w' (x.cls) i1));have HA2:=hd0 (aP (W:=oZ) (fun w' _=>aF w' (x.x) i2));have EQ:=hd0 (aP (W:=oZ) (fun w' _=>aF w' (x.y) i3));generalize S26++(gK.take k).flatMap jw=S31 at*
     generalize ai x.kind=D0 at*
     generalize ai x.cls=D1 at*
     generalize ai x.x=D2 at*
     generalize ai x.y=D3 at*
     have aka:∀w',(Op.stringOp .add ⟨S31.toArray⟩ ⟨D0.toArray⟩).run Tryz.prog w'= .ok (.string ⟨(S31++D0).toArray⟩) w':=bF S31 D0 (by omega);have aki:(S31++D0).length<=S31.length+D0.length:=bu _ _;generalize hS32:S31++D0=S32 at*
     have ag2:=hd0 hS32.symm;clear hS32;have aiT:∀w',(Op.stringOp .add ⟨S32.toArray⟩ ⟨D1.toArray⟩).run Tryz.prog w'= .ok (.string ⟨(S32++D1).toArray⟩) w':=bF S32 D1 (by omega);have ajP:(S32++D1).length<=S32.length+D1.length:=bu _ _;generalize hS33:S32++D1=S33 at*
     have ahB:=hd0 hS33.symm;clear hS33;have ai2:∀w',(Op.stringOp .add ⟨S33.toArray⟩ ⟨D2.toArray⟩).run Tryz.prog w'= .ok (.string ⟨(S33++D2).toArray⟩) w':=bF S33 D2 (by omega);have aiO:(S33++D2).length<=S33.length+D2.length:=bu _ _;generalize hS34:S33++D2=S34 at*
     have agJ:=hd0 hS34.symm;clear hS34;have ajt:∀w',(Op.stringOp .add ⟨S34.toArray⟩ ⟨D3.toArray⟩).run Tryz.prog w'= .ok (.string ⟨(S34++D3).toArray⟩) w':=bF S34 D3 (by omega);have ajv:(S34++D3).length<=S34.length+D3.length:=bu _ _;generalize hS35:S34++D3=S35 at*
     have ahx:=hd0 hS35.symm;clear hS35;clear hf hs0;refine bW (fun v=>Below oZ.heap.size oZ v) (by kernel_rfl) (by kernel_rfl) ((ant oZ.heap.size oZ).drew) ?_;have bT:Nonempty (WIn (fun v=>Below oZ.heap.size oZ v)):=⟨⟨_,((ant oZ.heap.size oZ).drew)⟩⟩
     repeat(go_big_quiet_step (first|with_reducible exact tu.out _|with_reducible exact HA1.out _|with_reducible exact HA2.out _|with_reducible exact EQ.out _))
     refine wpQuiet_nil ?_;intro _ hw';obtain⟨xq,hw''⟩:=hw';subst hw'';have oI:Hid (Below W0.heap.size W0 xq.w):=hd0 (aeY.out.trans (xq.ok.mono aeY.out.size));generalize xq.w=wz at*
     go_wp2_with fail
     go_roundw
     case rel=>exact⟨k+1,by omega,by simp,by rw[hsn.out,ahx.out,agJ.out,ahB.out,ag2.out],oI.out⟩
     case measure=>simp[intOf];omega
    obtain rfl:k=gK.length:=by omega
    rw[anA];have aiQ:(S26++gK.flatMap jw).length<=S26.length+(gK.flatMap jw).length:=bu _ _;generalize hS36:S26++gK.flatMap jw=S36 at*
    have ahE:=hd0 hS36.symm;clear hS36;have c7:BM.cell? ⟨w.heap.size,7,none⟩=some (.slice A7 alh.length d7):=((aj HX.out).1 _ _ z0).trans (HK.out.cell 7);have ajj:∀w',(Op.stringOp .add ⟨S36.toArray⟩ ⟨D5.toArray⟩).run Tryz.prog w'= .ok (.string ⟨(S36++D5).toArray⟩) w':=bF S36 D5 (by omega);have ajC:(S36++D5).length<=S36.length+D5.length:=bu _ _;generalize hS37:S36++D5=S37 at*
    have ahy:=hd0 hS37.symm;clear hS37;go_wp2_with fail
    refine(HD5.out _).mono ?_;rintro e agB ⟨rfl,hbd⟩;have afR:Hid (Below W0.heap.size W0 agB):=hd0 (HX.out.trans (hbd.mono HX.out.size));clear hbd c7 HX hb;go_wp2_with fail
    go_loopw [3,9] (fun s i wr=>∃k:Nat,k<=alh.length/\i= .int .i64 k/\s= .string ⟨(S37++(alh.take k).flatMap lU).toArray⟩/\Below W0.heap.size W0 wr) (fun _ i _=>alh.length - (intOf i).toNat)
    case atStart=>exact⟨0,nz _,rfl,by simp,afR.out⟩
    case round=>
     obtain⟨BI,rfl⟩:∃x,x=wr:=⟨_,rfl⟩
     obtain⟨k,hk,rfl,rfl,hb⟩:=hrel;have HX:=hd0 hb;have c7:BI.cell? ⟨w.heap.size,7,none⟩=some (.slice A7 alh.length d7):=((aj HX.out).1 _ _ z0).trans (HK.out.cell 7);by_cases hlt:k<alh.length
     ·
      obtain⟨b,o,x,rfl,-,hx,q0,q1,q2,q3,i0,i1,i2,i3⟩:=(H7.out.lw ak2.ok hb).delta hlt;have hsn:Hid (S37++(alh.take (k+1)).flatMap lU=S37++(alh.take k).flatMap lU++ai x.region++ai x.point++ai x.x++ai x.y):=by show _=_;rw[dU hx.out];simp[lU]
      have hf:=gZ (f:=lU) hx.out;simp only[lU,la,aT,ln] at hf;have hs0:(S37++(alh.take k).flatMap lU).length<=S37.length+((alh.take k).flatMap lU).length:=bu _ _;clear hx hb;go_wp2_with fail
      obtain⟨pg,hW2⟩:∃W2,BI.alloc (.cells #[.int .i64 x.region,.int .i64 x.point,.int .i64 x.x,.int .i64 x.y] 91)=W2:=⟨_,rfl⟩
      rw[hW2];have aep:Hid (Below W0.heap.size W0 pg):=by rw[<-hW2];exact hd0 (HX.out.alloc HX.out.size _)
      have b2:Bk pg BI.heap.size 91 #[.int .i64 x.region,.int .i64 x.point,.int .i64 x.x,.int .i64 x.y]:=by rw[<-hW2];exact Bk.new _ _ _
      clear hW2;have x0:∀xw:WIn (fun v=>Below pg.heap.size pg v),xw.w.cell? ⟨BI.heap.size,0,none⟩=some (.int .i64 x.region):=aC (b2.cell 0);have x1:∀xw:WIn (fun v=>Below pg.heap.size pg v),xw.w.cell? ⟨BI.heap.size,1,none⟩=some (.int .i64 x.point):=aC (b2.cell 1);have x2:∀xw:WIn (fun v=>Below pg.heap.size pg v),xw.w.cell? ⟨BI.heap.size,2,none⟩=some (.int .i64 x.x):=aC (b2.cell 2);have x3:∀xw:WIn (fun v=>Below pg.heap.size pg v),xw.w.cell? ⟨BI.heap.size,3,none⟩=some (.int .i64 x.y):=aC (b2.cell 3);clear b2;have tu:=hd0 (aP (W:=pg) (fun w' _=>aF w' (x.region) i0));have HA1:=hd0 (aP (W:=pg) (fun w' _=>aF w' (x.point) i1));have HA2:=hd0 (aP (W:=pg) (fun w' _=>aF w' (x.x) i2));have EQ:=hd0 (aP (W:=pg) (fun w' _=>aF w' (x.y) i3));generalize S37++(alh.take k).flatMap lU=S42 at*
      generalize ai x.region=D0 at*
      generalize ai x.point=D1 at*
      generalize ai x.x=D2 at*
      generalize ai x.y=D3 at*
      have aiR:∀w',(Op.stringOp .add ⟨S42.toArray⟩ ⟨D0.toArray⟩).run Tryz.prog w'= .ok (.string ⟨(S42++D0).toArray⟩) w':=bF S42 D0 (by omega);have ai8:(S42++D0).length<=S42.length+D0.length:=bu _ _;generalize hS43:S42++D0=S43 at*
      have ahN:=hd0 hS43.symm;clear hS43;have aiL:∀w',(Op.stringOp .add ⟨S43.toArray⟩ ⟨D1.toArray⟩).run Tryz.prog w'= .ok (.string ⟨(S43++D1).toArray⟩) w':=bF S43 D1 (by omega);have akx:(S43++D1).length<=S43.length+D1.length:=bu _ _;generalize hS44:S43++D1=S44 at*
      have ah7:=hd0 hS44.symm;clear hS44;have ajQ:∀w',(Op.stringOp .add ⟨S44.toArray⟩ ⟨D2.toArray⟩).run Tryz.prog w'= .ok (.string ⟨(S44++D2).toArray⟩) w':=bF S44 D2 (by omega);have akF:(S44++D2).length<=S44.length+D2.length:=bu _ _;generalize hS45:S44++D2=S45 at*
      have agL:=hd0 hS45.symm;clear hS45;have aj9:∀w',(Op.stringOp .add ⟨S45.toArray⟩ ⟨D3.toArray⟩).run Tryz.prog w'= .ok (.string ⟨(S45++D3).toArray⟩) w':=bF S45 D3 (by omega);have ajB:(S45++D3).length<=S45.length+D3.length:=bu _ _;generalize hS46:S45++D3=S46 at*
      have agN:=hd0 hS46.symm;clear hS46;clear hf hs0;refine bW (fun v=>Below pg.heap.size pg v) (by kernel_rfl) (by kernel_rfl) ((ant pg.heap.size pg).drew) ?_;have bT:Nonempty (WIn (fun v=>Below pg.heap.size pg v)):=⟨⟨_,((ant pg.heap.size pg).drew)⟩⟩
      repeat(go_big_quiet_step (first|with_reducible exact tu.out _|with_reducible exact HA1.out _|with_reducible exact HA2.out _|with_reducible exact EQ.out _))
      refine wpQuiet_nil ?_;intro _ hw';obtain⟨xq,hw''⟩:=hw';subst hw'';have oI:Hid (Below W0.heap.size W0 xq.w):=hd0 (aep.out.trans (xq.ok.mono aep.out.size));generalize xq.w=wz at*
      go_wp2_with fail
      go_roundw
      case rel=>exact⟨k+1,by omega,by simp,by rw[hsn.out,agN.out,agL.out,ah7.out,ahN.out],oI.out⟩
      case measure=>simp[intOf];omega
     obtain rfl:k=alh.length:=by omega
     rw[anA];have ajR:(S37++alh.flatMap lU).length<=S37.length+(alh.flatMap lU).length:=bu _ _;generalize hS47:S37++alh.flatMap lU=S47 at*
     have ahO:=hd0 hS47.symm;clear hS47;have r8:=((aj HX.out).1 _ _ z0).trans (HK.out.cell 8);have c8:BI.cell? ⟨w.heap.size,8,none⟩=some (.slice A8 hint.length d8):=((aj HX.out).1 _ _ z0).trans (HK.out.cell 8);clear r8;have ajz:∀w',(Op.stringOp .add ⟨S47.toArray⟩ ⟨H.toArray⟩).run Tryz.prog w'= .ok (.string ⟨(S47++H).toArray⟩) w':=bF S47 H (by omega);have ai9:(S47++H).length<=S47.length+H.length:=bu _ _;generalize hS48:S47++H=S48 at*
     have ahs:=hd0 hS48.symm;clear hS48;go_wp2_with fail
     refine(HP.out _ _ _ (H8.out.lw akZ.ok HX.out)).mono ?_;rintro e wy ⟨rfl,hby⟩;have HY2:Hid (Below W0.heap.size W0 wy):=hd0 (HX.out.trans (hby.mono HX.out.size));clear hby HP;go_wp2_with fail
     go_ret
     exact⟨by rw[ahs.out,ahO.out,ahy.out,ahE.out,ag1.out,agf.out,agc.out,ag0.out,ahq.out,HS7.out,HS6.out,HS5.out,HS4.out,HS3.out];rfl,HW.out.trans (HY2.out.mono HW.out.size)⟩
end Go.Proofs.YtkijckccfookeaaGreatDoor
