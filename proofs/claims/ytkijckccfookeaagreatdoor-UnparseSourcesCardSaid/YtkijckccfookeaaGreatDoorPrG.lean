/- Lemmas. -/
import Derived.Test.YtkijckccfookeaaGreatDoorV12
set_option linter.unusedVariables false
set_option linter.unusedSimpArgs false
set_option maxRecDepth 100000
set_option maxHeartbeats 32000000
namespace Go.Proofs.YtkijckccfookeaaGreatDoor
open Go.RowKit
theorem OL (p:Pt):1<=(qo p).length:=by have:=fA p.x;unfold qo;rw[la];omega
theorem IA (p:Part):1<=(jc p).length:=by have:=fA p.ahU;unfold jc;rw[la];omega
theorem Ic (p:aiK):1<=(jg p).length:=by have:=fA p.kind;unfold jg;rw[la];omega
theorem KJ (p:Delta):1<=(kZ p).length:=by have:=fA p.region;unfold kZ;rw[la];omega
theorem UF (w:World)(g:ahR)(A3 A4 A5 A6 A7 A8:Option Addr)(d3 d4 d5 d6 d7 d8:Nat)(i1:I64 g.advance)(h3:Sl PtR 3 w (Lw w) A3 g.points)(h4:Sl ahT 1 w (Lw w) A4 g.ends)(h5:Sl ah6 3 w (Lw w) A5 g.parts)(h6:Sl ahY 4 w (Lw w) A6 g.anchors)(h7:Sl ah3 4 w (Lw w) A7 g.deltas)(h8:Sl ah5 2 w (Lw w) A8 g.hint)(hlen:(eF g).length<=100000000000000):
  Calls Tryz.prog 100 #[.agg #[.string ⟨g.name.toArray⟩,.int .i64 g.advance,.bool g.mark,.slice A3 g.points.length d3,.slice A4 g.ends.length d4,.slice A5 g.parts.length d5,.slice A6 g.anchors.length d6,.slice A7 g.deltas.length d7,.slice A8 g.hint.length d8]] w fun e w'=>e= .returned (.string ⟨(eF g).toArray⟩)/\Below w.heap.size w w':=by
 obtain⟨nm,adv,mk,pts,ends,parts,gB,aid,hint⟩:=g;have hgl:eF ⟨nm,adv,mk,pts,ends,parts,gB,aid,hint⟩=ah (nm.length:Int)++nm++[32]++ah adv++uX mk++ah (pts.length:Int)++pts.flatMap qo++rowB ends++ah (parts.length:Int)++parts.flatMap jc++ah (gB.length:Int)++gB.flatMap jg++ah (aid.length:Int)++aid.flatMap kZ++fE hint:=by simp[eF,qU,WJ,Ko,Lr,Ru]
 rw[hgl] at hlen ⊢;clear hgl;simp only[la,aF,ln] at hlen;simp only at i1 h3 h4 h5 h6 h7 h8 ⊢;have n0:I64 (nm.length:Int):=⟨by omega,by omega⟩
 have n3:I64 (pts.length:Int):=jW qo OL pts (by omega);have ln3:pts.length<=100000000000000:=nt (eY qo OL pts) (by omega);have n5:I64 (parts.length:Int):=jW jc IA parts (by omega);have ln5:parts.length<=100000000000000:=nt (eY jc IA parts) (by omega);have n6:I64 (gB.length:Int):=jW jg Ic gB (by omega);have ln6:gB.length<=100000000000000:=nt (eY jg Ic gB) (by omega);have n7:I64 (aid.length:Int):=jW kZ KJ aid (by omega);have ln7:aid.length<=100000000000000:=nt (eY kZ KJ aid) (by omega);have H3:=hd0 h3;have H4:=hd0 h4;have H5:=hd0 h5;have H6:=hd0 h6;have H7:=hd0 h7;have H8:=hd0 h8;have HE:=hd0 (show(rowB ends).length<=100000000000000 by omega);have HC:=hd0 (show(fE hint).length<=100000000000000 by omega);have HD0:=hd0 (fun w'=>ay w' _ n0);have HD1:=hd0 (fun w'=>ay w' _ i1);have HD2:=hd0 (fun w'=>ay w' _ n3);have HD3:=hd0 (fun w'=>ay w' _ n5);have HD4:=hd0 (fun w'=>ay w' _ n6);have HD5:=hd0 (fun w'=>ay w' _ n7);have HY:=hd0 (fun w'=>JK w' mk);have HR:=hd0 (fun w' c A (h:Sl ahT 1 w' (Lw w') A ends)=>xC w' A c ends h HE.out);have HP:=hd0 (fun w' c A (h:Sl ah5 2 w' (Lw w') A hint)=>KI w' A c hint h HC.out);clear h3 h4 h5 h6 h7 h8 n0 i1 n3 n5 n6 n7 HE HC;generalize ah (nm.length:Int)=D0 at*
 generalize ah adv=D1 at*
 generalize uX mk=Y at*
 generalize ah (pts.length:Int)=D2 at*
 generalize rowB ends=E at*
 generalize ah (parts.length:Int)=D3 at*
 generalize ah (gB.length:Int)=D4 at*
 generalize ah (aid.length:Int)=D5 at*
 generalize fE hint=H at*
 go_enter Tryz.func100,Tryz.ntmps100
 go_wp2_with fail
 obtain⟨W0,hW0⟩:∃W0,w.alloc (.cells #[.string ⟨nm.toArray⟩,.int .i64 adv,.bool mk,.slice A3 pts.length d3,.slice A4 ends.length d4,.slice A5 parts.length d5,.slice A6 gB.length d6,.slice A7 aid.length d7,.slice A8 hint.length d8] 59)=W0:=⟨_,rfl⟩
 rw[hW0];have HW:Hid (Below w.heap.size w W0):=by rw[<-hW0];exact hd0 ((akl _ _).alloc (nr _) _)
 have HK:Hid (Bk W0 w.heap.size 59 #[.string ⟨nm.toArray⟩,.int .i64 adv,.bool mk,.slice A3 pts.length d3,.slice A4 ends.length d4,.slice A5 parts.length d5,.slice A6 gB.length d6,.slice A7 aid.length d7,.slice A8 hint.length d8]):=by rw[<-hW0];exact hd0 (Bk.new _ _ _)
 have z0:w.heap.size<W0.heap.size:=HK.out.lt;clear hW0;replace H3:=hd0 (H3.out.lw PtR.ok HW.out);replace H4:=hd0 (H4.out.lw ahT.ok HW.out);replace H5:=hd0 (H5.out.lw ah6.ok HW.out);replace H6:=hd0 (H6.out.lw ahY.ok HW.out);replace H7:=hd0 (H7.out.lw ah3.ok HW.out);replace H8:=hd0 (H8.out.lw ah5.ok HW.out);have x0:∀xw:WIn (fun v=>Below W0.heap.size W0 v),xw.w.cell? ⟨w.heap.size,0,none⟩=some (.string ⟨nm.toArray⟩):=ax (HK.out.cell 0);have x1:∀xw:WIn (fun v=>Below W0.heap.size W0 v),xw.w.cell? ⟨w.heap.size,1,none⟩=some (.int .i64 adv):=ax (HK.out.cell 1);have x2:∀xw:WIn (fun v=>Below W0.heap.size W0 v),xw.w.cell? ⟨w.heap.size,2,none⟩=some (.bool mk):=ax (HK.out.cell 2);have x3:∀xw:WIn (fun v=>Below W0.heap.size W0 v),xw.w.cell? ⟨w.heap.size,3,none⟩=some (.slice A3 pts.length d3):=ax (HK.out.cell 3);have rS3:∀w',(Op.stringOp .add ⟨D0.toArray⟩ ⟨nm.toArray⟩).run Tryz.prog w'= .ok (.string ⟨(D0++nm).toArray⟩) w':=bi D0 nm (by omega);have lS3:(D0++nm).length<=D0.length+nm.length:=bf _ _;generalize hS3:D0++nm=S3 at*
 have HS3:=hd0 hS3.symm;clear hS3;have rS4:∀w',(Op.stringOp .add ⟨S3.toArray⟩ ⟨#[32]⟩).run Tryz.prog w'= .ok (.string ⟨(S3++[32]).toArray⟩) w':=bi S3 [32] (by simp only[aF,ln];omega);have lS4:(S3++[32]).length<=S3.length+1:=bf _ _;generalize hS4:S3++[32]=S4 at*
 have HS4:=hd0 hS4.symm;clear hS4;have rS5:∀w',(Op.stringOp .add ⟨S4.toArray⟩ ⟨D1.toArray⟩).run Tryz.prog w'= .ok (.string ⟨(S4++D1).toArray⟩) w':=bi S4 D1 (by omega);have lS5:(S4++D1).length<=S4.length+D1.length:=bf _ _;generalize hS5:S4++D1=S5 at*
 have LQ:=hd0 hS5.symm;clear hS5;have rS6:∀w',(Op.stringOp .add ⟨S5.toArray⟩ ⟨Y.toArray⟩).run Tryz.prog w'= .ok (.string ⟨(S5++Y).toArray⟩) w':=bi S5 Y (by omega);have lS6:(S5++Y).length<=S5.length+Y.length:=bf _ _;generalize hS6:S5++Y=S6 at*
 have HS6:=hd0 hS6.symm;clear hS6;have rS7:∀w',(Op.stringOp .add ⟨S6.toArray⟩ ⟨D2.toArray⟩).run Tryz.prog w'= .ok (.string ⟨(S6++D2).toArray⟩) w':=bi S6 D2 (by omega);have lS7:(S6++D2).length<=S6.length+D2.length:=bf _ _;generalize hS7:S6++D2=S7 at*
 have HS7:=hd0 hS7.symm;clear hS7;have Aj:=hd0 (aK (W:=W0) (fun w' _=>HD0.out w'));have BA:=hd0 (aK (W:=W0) (fun w' _=>HD1.out w'));have aaI:=hd0 (aK (W:=W0) (fun w' _=>HD2.out w'));have UM:=hd0 (aK (W:=W0) (fun w' _=>HY.out w'));refine bP (fun v=>Below W0.heap.size W0 v) (by kernel_rfl) (by kernel_rfl) ((akl W0.heap.size W0).drew) ?_;have bK:Nonempty (WIn (fun v=>Below W0.heap.size W0 v)):=⟨⟨_,((akl W0.heap.size W0).drew)⟩⟩
 repeat(go_big_quiet_step (first|with_reducible exact Aj.out _|with_reducible exact BA.out _|with_reducible exact UM.out _|with_reducible exact aaI.out _))
 refine wpQuiet_nil ?_;intro _ hw';obtain⟨xq,hw''⟩:=hw';subst hw'';have UH:Hid (Below W0.heap.size W0 xq.w):=hd0 xq.ok;generalize xq.w=wa at*
 clear x0 x1 x2 x3 Aj BA aaI UM bK rS3 rS4 rS5 rS6 rS7;go_wp2_with fail
 go_loopw [3,4] (fun s i wr=>∃k:Nat,k<=pts.length/\i= .int .i64 k/\s= .string ⟨(S7++(pts.take k).flatMap qo).toArray⟩/\Below W0.heap.size W0 wr) (fun _ i _=>pts.length - (intOf i).toNat)
 case atStart=>exact⟨0,nz _,rfl,by simp,UH.out⟩
 case round=>
  obtain⟨qh,rfl⟩:∃x,x=wr:=⟨_,rfl⟩
  obtain⟨k,hk,rfl,rfl,hb⟩:=hrel;have HX:=hd0 hb;have c3:qh.cell? ⟨w.heap.size,3,none⟩=some (.slice A3 pts.length d3):=((aj HX.out).1 _ _ z0).trans (HK.out.cell 3);by_cases hlt:k<pts.length
  ·
   obtain⟨b,o,x,rfl,-,hx,q0,q1,q2,i0,i1⟩:=(H3.out.lw PtR.ok hb).pt hlt;have hsn:Hid (S7++(pts.take (k+1)).flatMap qo=S7++(pts.take k).flatMap qo++ah x.x++ah x.y++uX x.on):=by show _=_;rw[dS hx.out];simp[qo]
   have hf:=gV (f:=qo) hx.out;simp only[qo,la,aF,ln] at hf;have hs0:(S7++(pts.take k).flatMap qo).length<=S7.length+((pts.take k).flatMap qo).length:=bf _ _;clear hx hb;go_wp2_with fail
   obtain⟨lZ,hW2⟩:∃W2,qh.alloc (.cells #[.int .i64 x.x,.int .i64 x.y,.bool x.on] 139)=W2:=⟨_,rfl⟩
   rw[hW2];have ace:Hid (Below W0.heap.size W0 lZ):=by rw[<-hW2];exact hd0 (HX.out.alloc HX.out.size _)
   have b2:Bk lZ qh.heap.size 139 #[.int .i64 x.x,.int .i64 x.y,.bool x.on]:=by rw[<-hW2];exact Bk.new _ _ _
   clear hW2;have x0:∀xw:WIn (fun v=>Below lZ.heap.size lZ v),xw.w.cell? ⟨qh.heap.size,0,none⟩=some (.int .i64 x.x):=ax (b2.cell 0);have x1:∀xw:WIn (fun v=>Below lZ.heap.size lZ v),xw.w.cell? ⟨qh.heap.size,1,none⟩=some (.int .i64 x.y):=ax (b2.cell 1);have x2:∀xw:WIn (fun v=>Below lZ.heap.size lZ v),xw.w.cell? ⟨qh.heap.size,2,none⟩=some (.bool x.on):=ax (b2.cell 2);clear b2;have tY:=hd0 (aK (W:=lZ) (fun w' _=>ay w' (x.x) i0));have HA1:=hd0 (aK (W:=lZ) (fun w' _=>ay w' (x.y) i1));have HA2:=hd0 (aK (W:=lZ) (fun w' _=>JK w' x.on));generalize S7++(pts.take k).flatMap qo=Ij at*
   generalize ah x.x=D0 at*
   generalize ah x.y=D1 at*
   generalize uX x.on=D2 at*
   have af4:∀w',(Op.stringOp .add ⟨Ij.toArray⟩ ⟨D0.toArray⟩).run Tryz.prog w'= .ok (.string ⟨(Ij++D0).toArray⟩) w':=bi Ij D0 (by omega);have ahG:(Ij++D0).length<=Ij.length+D0.length:=bf _ _;generalize hS12:Ij++D0=Iu at*
   have aeq:=hd0 hS12.symm;clear hS12;have agY:∀w',(Op.stringOp .add ⟨Iu.toArray⟩ ⟨D1.toArray⟩).run Tryz.prog w'= .ok (.string ⟨(Iu++D1).toArray⟩) w':=bi Iu D1 (by omega);have agn:(Iu++D1).length<=Iu.length+D1.length:=bf _ _;generalize hS13:Iu++D1=S13 at*
   have aeu:=hd0 hS13.symm;clear hS13;have ahz:∀w',(Op.stringOp .add ⟨S13.toArray⟩ ⟨D2.toArray⟩).run Tryz.prog w'= .ok (.string ⟨(S13++D2).toArray⟩) w':=bi S13 D2 (by omega);have afZ:(S13++D2).length<=S13.length+D2.length:=bf _ _;generalize hS14:S13++D2=S14 at*
   have aeD:=hd0 hS14.symm;clear hS14;clear hf hs0;refine bP (fun v=>Below lZ.heap.size lZ v) (by kernel_rfl) (by kernel_rfl) ((akl lZ.heap.size lZ).drew) ?_;have bK:Nonempty (WIn (fun v=>Below lZ.heap.size lZ v)):=⟨⟨_,((akl lZ.heap.size lZ).drew)⟩⟩
   repeat(go_big_quiet_step (first|with_reducible exact tY.out _|with_reducible exact HA1.out _|with_reducible exact HA2.out _))
   refine wpQuiet_nil ?_;intro _ hw';obtain⟨xq,hw''⟩:=hw';subst hw'';have ny:Hid (Below W0.heap.size W0 xq.w):=hd0 (ace.out.trans (xq.ok.mono ace.out.size));generalize xq.w=wz at*
   go_wp2_with fail
   go_roundw
   case rel=>exact⟨k+1,by omega,by simp,by rw[hsn.out,aeD.out,aeu.out,aeq.out],ny.out⟩
   case measure=>simp[intOf];omega
  obtain rfl:k=pts.length:=by omega
  rw[akr];have agG:(S7++pts.flatMap qo).length<=S7.length+(pts.flatMap qo).length:=bf _ _;generalize hS15:S7++pts.flatMap qo=S15 at*
  have aeh:=hd0 hS15.symm;clear hS15;have x4:∀xw:WIn (fun v=>Below qh.heap.size qh v),xw.w.cell? ⟨w.heap.size,4,none⟩=some (.slice A4 ends.length d4):=ax (((aj HX.out).1 _ _ z0).trans (HK.out.cell 4));have x5:∀xw:WIn (fun v=>Below qh.heap.size qh v),xw.w.cell? ⟨w.heap.size,5,none⟩=some (.slice A5 parts.length d5):=ax (((aj HX.out).1 _ _ z0).trans (HK.out.cell 5));have HRc:=hd0 (aK (W:=qh) (fun w' hw'=>HR.out w' d4 A4 ((H4.out.lw ahT.ok HX.out).lw ahT.ok hw')));have aa4:=hd0 (aK (W:=qh) (fun w' _=>HD3.out w'));have adW:∀w',(Op.stringOp .add ⟨S15.toArray⟩ ⟨E.toArray⟩).run Tryz.prog w'= .ok (.string ⟨(S15++E).toArray⟩) w':=bi S15 E (by omega);have ahs:(S15++E).length<=S15.length+E.length:=bf _ _;generalize hS16:S15++E=S16 at*
  have adt:=hd0 hS16.symm;clear hS16;have ad8:∀w',(Op.stringOp .add ⟨S16.toArray⟩ ⟨D3.toArray⟩).run Tryz.prog w'= .ok (.string ⟨(S16++D3).toArray⟩) w':=bi S16 D3 (by omega);have agE:(S16++D3).length<=S16.length+D3.length:=bf _ _;generalize hS17:S16++D3=S17 at*
  have adu:=hd0 hS17.symm;clear hS17;go_wp2_with fail
  refine bP (fun v=>Below qh.heap.size qh v) (by kernel_rfl) (by kernel_rfl) ((akl qh.heap.size qh).drew) ?_;have bK:Nonempty (WIn (fun v=>Below qh.heap.size qh v)):=⟨⟨_,((akl qh.heap.size qh).drew)⟩⟩
  repeat(go_big_quiet_step (first|with_reducible exact HRc.out _|with_reducible exact aa4.out _))
  refine wpQuiet_nil ?_;intro _ hw';obtain⟨xq,hw''⟩:=hw';subst hw'';have ade:Hid (Below W0.heap.size W0 xq.w):=hd0 (HX.out.trans (xq.ok.mono HX.out.size));generalize xq.w=wb18 at*
  clear x4 x5 HRc aa4 bK adW ad8 HX hb;go_wp2_with fail
  go_loopw [3,6] (fun s i wr=>∃k:Nat,k<=parts.length/\i= .int .i64 k/\s= .string ⟨(S17++(parts.take k).flatMap jc).toArray⟩/\Below W0.heap.size W0 wr) (fun _ i _=>parts.length - (intOf i).toNat)
  case atStart=>exact⟨0,nz _,rfl,by simp,ade.out⟩
  case round=>
   obtain⟨kJ,rfl⟩:∃x,x=wr:=⟨_,rfl⟩
   obtain⟨k,hk,rfl,rfl,hb⟩:=hrel;have HX:=hd0 hb;have c5:kJ.cell? ⟨w.heap.size,5,none⟩=some (.slice A5 parts.length d5):=((aj HX.out).1 _ _ z0).trans (HK.out.cell 5);by_cases hlt:k<parts.length
   ·
    obtain⟨b,o,x,rfl,-,hx,q0,q1,q2,i0,i1,i2⟩:=(H5.out.lw ah6.ok hb).part hlt;have hsn:Hid (S17++(parts.take (k+1)).flatMap jc=S17++(parts.take k).flatMap jc++ah x.ahU++ah x.x++ah x.y):=by show _=_;rw[dS hx.out];simp[jc]
    have hf:=gV (f:=jc) hx.out;simp only[jc,la,aF,ln] at hf;have hs0:(S17++(parts.take k).flatMap jc).length<=S17.length+((parts.take k).flatMap jc).length:=bf _ _;clear hx;have xc:∀xw:WIn (fun v=>Below kJ.heap.size kJ v),xw.w.cell? ⟨w.heap.size,5,none⟩=some (.slice (some ⟨b,o,none⟩) parts.length d5):=ax c5;have xq0:∀xw:WIn (fun v=>Below kJ.heap.size kJ v),xw.w.cell? ⟨b,o+k*3,none⟩=some (.int .i64 x.ahU):=ax q0;have xq1:∀xw:WIn (fun v=>Below kJ.heap.size kJ v),xw.w.cell? ⟨b,o+k*3+1,none⟩=some (.int .i64 x.x):=ax q1;have xq2:∀xw:WIn (fun v=>Below kJ.heap.size kJ v),xw.w.cell? ⟨b,o+k*3+2,none⟩=some (.int .i64 x.y):=ax q2;have tY:=hd0 (aK (W:=kJ) (fun w' _=>ay w' (x.ahU) i0));have HA1:=hd0 (aK (W:=kJ) (fun w' _=>ay w' (x.x) i1));have HA2:=hd0 (aK (W:=kJ) (fun w' _=>ay w' (x.y) i2));generalize S17++(parts.take k).flatMap jc=S21 at*
    generalize ah x.ahU=D0 at*
    generalize ah x.x=D1 at*
    generalize ah x.y=D2 at*
    have af8:∀w',(Op.stringOp .add ⟨S21.toArray⟩ ⟨D0.toArray⟩).run Tryz.prog w'= .ok (.string ⟨(S21++D0).toArray⟩) w':=bi S21 D0 (by omega);have agR:(S21++D0).length<=S21.length+D0.length:=bf _ _;generalize hS22:S21++D0=S22 at*
    have ad2:=hd0 hS22.symm;clear hS22;have agy:∀w',(Op.stringOp .add ⟨S22.toArray⟩ ⟨D1.toArray⟩).run Tryz.prog w'= .ok (.string ⟨(S22++D1).toArray⟩) w':=bi S22 D1 (by omega);have agN:(S22++D1).length<=S22.length+D1.length:=bf _ _;generalize hS23:S22++D1=S23 at*
    have aeH:=hd0 hS23.symm;clear hS23;have ag4:∀w',(Op.stringOp .add ⟨S23.toArray⟩ ⟨D2.toArray⟩).run Tryz.prog w'= .ok (.string ⟨(S23++D2).toArray⟩) w':=bi S23 D2 (by omega);have agI:(S23++D2).length<=S23.length+D2.length:=bf _ _;generalize hS24:S23++D2=S24 at*
    have adT:=hd0 hS24.symm;clear hS24;clear hf hs0 hb q0 q1 q2;go_wp2_with fail
    refine bP (fun v=>Below kJ.heap.size kJ v) (by kernel_rfl) (by kernel_rfl) ((akl kJ.heap.size kJ).drew) ?_;have bK:Nonempty (WIn (fun v=>Below kJ.heap.size kJ v)):=⟨⟨_,((akl kJ.heap.size kJ).drew)⟩⟩
    repeat(go_big_quiet_step (first|with_reducible exact tY.out _|with_reducible exact HA1.out _|with_reducible exact HA2.out _))
    refine wpQuiet_nil ?_;intro _ hw';obtain⟨xq,hw''⟩:=hw';subst hw'';have ny:Hid (Below W0.heap.size W0 xq.w):=hd0 (HX.out.trans (xq.ok.mono HX.out.size));generalize xq.w=wz at*
    go_wp2_with fail
    go_roundw
    case rel=>exact⟨k+1,by omega,by simp,by rw[hsn.out,adT.out,aeH.out,ad2.out],ny.out⟩
    case measure=>simp[intOf];omega
   obtain rfl:k=parts.length:=by omega
   rw[akr];have af5:(S17++parts.flatMap jc).length<=S17.length+(parts.flatMap jc).length:=bf _ _;generalize hS25:S17++parts.flatMap jc=S25 at*
   have aey:=hd0 hS25.symm;clear hS25;have c6:kJ.cell? ⟨w.heap.size,6,none⟩=some (.slice A6 gB.length d6):=((aj HX.out).1 _ _ z0).trans (HK.out.cell 6);have agc:∀w',(Op.stringOp .add ⟨S25.toArray⟩ ⟨D4.toArray⟩).run Tryz.prog w'= .ok (.string ⟨(S25++D4).toArray⟩) w':=bi S25 D4 (by omega);have af6:(S25++D4).length<=S25.length+D4.length:=bf _ _;generalize hS26:S25++D4=S26 at*
   have ae4:=hd0 hS26.symm;clear hS26;go_wp2_with fail
   refine(HD4.out _).mono ?_;rintro e adz ⟨rfl,hbd⟩;have ac1:Hid (Below W0.heap.size W0 adz):=hd0 (HX.out.trans (hbd.mono HX.out.size));clear hbd c6 HX hb;go_wp2_with fail
   go_loopw [3,7] (fun s i wr=>∃k:Nat,k<=gB.length/\i= .int .i64 k/\s= .string ⟨(S26++(gB.take k).flatMap jg).toArray⟩/\Below W0.heap.size W0 wr) (fun _ i _=>gB.length - (intOf i).toNat)
   case atStart=>exact⟨0,nz _,rfl,by simp,ac1.out⟩
   case round=>
    obtain⟨zC,rfl⟩:∃x,x=wr:=⟨_,rfl⟩
    obtain⟨k,hk,rfl,rfl,hb⟩:=hrel;have HX:=hd0 hb;have c6:zC.cell? ⟨w.heap.size,6,none⟩=some (.slice A6 gB.length d6):=((aj HX.out).1 _ _ z0).trans (HK.out.cell 6);by_cases hlt:k<gB.length
    ·
     obtain⟨b,o,x,rfl,-,hx,q0,q1,q2,q3,i0,i1,i2,i3⟩:=(H6.out.lw ahY.ok hb).anchor hlt;have hsn:Hid (S26++(gB.take (k+1)).flatMap jg=S26++(gB.take k).flatMap jg++ah x.kind++ah x.cls++ah x.x++ah x.y):=by show _=_;rw[dS hx.out];simp[jg]
     have hf:=gV (f:=jg) hx.out;simp only[jg,la,aF,ln] at hf;have hs0:(S26++(gB.take k).flatMap jg).length<=S26.length+((gB.take k).flatMap jg).length:=bf _ _;clear hx hb;go_wp2_with fail
     obtain⟨oI,hW2⟩:∃W2,zC.alloc (.cells #[.int .i64 x.kind,.int .i64 x.cls,.int .i64 x.x,.int .i64 x.y] 89)=W2:=⟨_,rfl⟩
     rw[hW2];have aab:Hid (Below W0.heap.size W0 oI):=by rw[<-hW2];exact hd0 (HX.out.alloc HX.out.size _)
     have b2:Bk oI zC.heap.size 89 #[.int .i64 x.kind,.int .i64 x.cls,.int .i64 x.x,.int .i64 x.y]:=by rw[<-hW2];exact Bk.new _ _ _
     clear hW2;have x0:∀xw:WIn (fun v=>Below oI.heap.size oI v),xw.w.cell? ⟨zC.heap.size,0,none⟩=some (.int .i64 x.kind):=ax (b2.cell 0);have x1:∀xw:WIn (fun v=>Below oI.heap.size oI v),xw.w.cell? ⟨zC.heap.size,1,none⟩=some (.int .i64 x.cls):=ax (b2.cell 1);have x2:∀xw:WIn (fun v=>Below oI.heap.size oI v),xw.w.cell? ⟨zC.heap.size,2,none⟩=some (.int .i64 x.x):=ax (b2.cell 2);have x3:∀xw:WIn (fun v=>Below oI.heap.size oI v),xw.w.cell? ⟨zC.heap.size,3,none⟩=some (.int .i64 x.y):=ax (b2.cell 3);clear b2;have tY:=hd0 (aK (W:=oI) (fun w' _=>ay w' (x.kind) i0));have HA1:=hd0 (aK (W:=oI) (fun w' _=>ay w' (x.cls) i1));have HA2:=hd0 (aK (W:=oI) (fun w' _=>ay w' (x.x) i2));have CV:=hd0 (aK (W:=oI) (fun w' _=>ay w' (x.y) i3));generalize S26++(gB.take k).flatMap jg=S31 at*
     generalize ah x.kind=D0 at*
     generalize ah x.cls=D1 at*
     generalize ah x.x=D2 at*
     generalize ah x.y=D3 at*
     have agJ:∀w',(Op.stringOp .add ⟨S31.toArray⟩ ⟨D0.toArray⟩).run Tryz.prog w'= .ok (.string ⟨(S31++D0).toArray⟩) w':=bi S31 D0 (by omega);have ahw:(S31++D0).length<=S31.length+D0.length:=bf _ _;generalize hS32:S31++D0=S32 at*
     have aeE:=hd0 hS32.symm;clear hS32;have agX:∀w',(Op.stringOp .add ⟨S32.toArray⟩ ⟨D1.toArray⟩).run Tryz.prog w'= .ok (.string ⟨(S32++D1).toArray⟩) w':=bi S32 D1 (by omega);have ag9:(S32++D1).length<=S32.length+D1.length:=bf _ _;generalize hS33:S32++D1=S33 at*
     have aek:=hd0 hS33.symm;clear hS33;have agL:∀w',(Op.stringOp .add ⟨S33.toArray⟩ ⟨D2.toArray⟩).run Tryz.prog w'= .ok (.string ⟨(S33++D2).toArray⟩) w':=bi S33 D2 (by omega);have agH:(S33++D2).length<=S33.length+D2.length:=bf _ _;generalize hS34:S33++D2=S34 at*
     have aeV:=hd0 hS34.symm;clear hS34;have ahr:∀w',(Op.stringOp .add ⟨S34.toArray⟩ ⟨D3.toArray⟩).run Tryz.prog w'= .ok (.string ⟨(S34++D3).toArray⟩) w':=bi S34 D3 (by omega);have aha:(S34++D3).length<=S34.length+D3.length:=bf _ _;generalize hS35:S34++D3=S35 at*
     have aeS:=hd0 hS35.symm;clear hS35;clear hf hs0;refine bP (fun v=>Below oI.heap.size oI v) (by kernel_rfl) (by kernel_rfl) ((akl oI.heap.size oI).drew) ?_;have bK:Nonempty (WIn (fun v=>Below oI.heap.size oI v)):=⟨⟨_,((akl oI.heap.size oI).drew)⟩⟩
     repeat(go_big_quiet_step (first|with_reducible exact tY.out _|with_reducible exact HA1.out _|with_reducible exact HA2.out _|with_reducible exact CV.out _))
     refine wpQuiet_nil ?_;intro _ hw';obtain⟨xq,hw''⟩:=hw';subst hw'';have ny:Hid (Below W0.heap.size W0 xq.w):=hd0 (aab.out.trans (xq.ok.mono aab.out.size));generalize xq.w=wz at*
     go_wp2_with fail
     go_roundw
     case rel=>exact⟨k+1,by omega,by simp,by rw[hsn.out,aeS.out,aeV.out,aek.out,aeE.out],ny.out⟩
     case measure=>simp[intOf];omega
    obtain rfl:k=gB.length:=by omega
    rw[akr];have ahh:(S26++gB.flatMap jg).length<=S26.length+(gB.flatMap jg).length:=bf _ _;generalize hS36:S26++gB.flatMap jg=S36 at*
    have ae6:=hd0 hS36.symm;clear hS36;have c7:zC.cell? ⟨w.heap.size,7,none⟩=some (.slice A7 aid.length d7):=((aj HX.out).1 _ _ z0).trans (HK.out.cell 7);have ahd:∀w',(Op.stringOp .add ⟨S36.toArray⟩ ⟨D5.toArray⟩).run Tryz.prog w'= .ok (.string ⟨(S36++D5).toArray⟩) w':=bi S36 D5 (by omega);have ahm:(S36++D5).length<=S36.length+D5.length:=bf _ _;generalize hS37:S36++D5=S37 at*
    have aeQ:=hd0 hS37.symm;clear hS37;go_wp2_with fail
    refine(HD5.out _).mono ?_;rintro e aed ⟨rfl,hbd⟩;have ac3:Hid (Below W0.heap.size W0 aed):=hd0 (HX.out.trans (hbd.mono HX.out.size));clear hbd c7 HX hb;go_wp2_with fail
    go_loopw [3,9] (fun s i wr=>∃k:Nat,k<=aid.length/\i= .int .i64 k/\s= .string ⟨(S37++(aid.take k).flatMap kZ).toArray⟩/\Below W0.heap.size W0 wr) (fun _ i _=>aid.length - (intOf i).toNat)
    case atStart=>exact⟨0,nz _,rfl,by simp,ac3.out⟩
    case round=>
     obtain⟨BF,rfl⟩:∃x,x=wr:=⟨_,rfl⟩
     obtain⟨k,hk,rfl,rfl,hb⟩:=hrel;have HX:=hd0 hb;have c7:BF.cell? ⟨w.heap.size,7,none⟩=some (.slice A7 aid.length d7):=((aj HX.out).1 _ _ z0).trans (HK.out.cell 7);by_cases hlt:k<aid.length
     ·
      obtain⟨b,o,x,rfl,-,hx,q0,q1,q2,q3,i0,i1,i2,i3⟩:=(H7.out.lw ah3.ok hb).delta hlt;have hsn:Hid (S37++(aid.take (k+1)).flatMap kZ=S37++(aid.take k).flatMap kZ++ah x.region++ah x.point++ah x.x++ah x.y):=by show _=_;rw[dS hx.out];simp[kZ]
      have hf:=gV (f:=kZ) hx.out;simp only[kZ,la,aF,ln] at hf;have hs0:(S37++(aid.take k).flatMap kZ).length<=S37.length+((aid.take k).flatMap kZ).length:=bf _ _;clear hx hb;go_wp2_with fail
      obtain⟨oJ,hW2⟩:∃W2,BF.alloc (.cells #[.int .i64 x.region,.int .i64 x.point,.int .i64 x.x,.int .i64 x.y] 91)=W2:=⟨_,rfl⟩
      rw[hW2];have acf:Hid (Below W0.heap.size W0 oJ):=by rw[<-hW2];exact hd0 (HX.out.alloc HX.out.size _)
      have b2:Bk oJ BF.heap.size 91 #[.int .i64 x.region,.int .i64 x.point,.int .i64 x.x,.int .i64 x.y]:=by rw[<-hW2];exact Bk.new _ _ _
      clear hW2;have x0:∀xw:WIn (fun v=>Below oJ.heap.size oJ v),xw.w.cell? ⟨BF.heap.size,0,none⟩=some (.int .i64 x.region):=ax (b2.cell 0);have x1:∀xw:WIn (fun v=>Below oJ.heap.size oJ v),xw.w.cell? ⟨BF.heap.size,1,none⟩=some (.int .i64 x.point):=ax (b2.cell 1);have x2:∀xw:WIn (fun v=>Below oJ.heap.size oJ v),xw.w.cell? ⟨BF.heap.size,2,none⟩=some (.int .i64 x.x):=ax (b2.cell 2);have x3:∀xw:WIn (fun v=>Below oJ.heap.size oJ v),xw.w.cell? ⟨BF.heap.size,3,none⟩=some (.int .i64 x.y):=ax (b2.cell 3);clear b2;have tY:=hd0 (aK (W:=oJ) (fun w' _=>ay w' (x.region) i0));have HA1:=hd0 (aK (W:=oJ) (fun w' _=>ay w' (x.point) i1));have HA2:=hd0 (aK (W:=oJ) (fun w' _=>ay w' (x.x) i2));have CV:=hd0 (aK (W:=oJ) (fun w' _=>ay w' (x.y) i3));generalize S37++(aid.take k).flatMap kZ=S42 at*
      generalize ah x.region=D0 at*
      generalize ah x.point=D1 at*
      generalize ah x.x=D2 at*
      generalize ah x.y=D3 at*
      have agU:∀w',(Op.stringOp .add ⟨S42.toArray⟩ ⟨D0.toArray⟩).run Tryz.prog w'= .ok (.string ⟨(S42++D0).toArray⟩) w':=bi S42 D0 (by omega);have ahc:(S42++D0).length<=S42.length+D0.length:=bf _ _;generalize hS43:S42++D0=S43 at*
      have aeB:=hd0 hS43.symm;clear hS43;have ahn:∀w',(Op.stringOp .add ⟨S43.toArray⟩ ⟨D1.toArray⟩).run Tryz.prog w'= .ok (.string ⟨(S43++D1).toArray⟩) w':=bi S43 D1 (by omega);have aho:(S43++D1).length<=S43.length+D1.length:=bf _ _;generalize hS44:S43++D1=S44 at*
      have aen:=hd0 hS44.symm;clear hS44;have af9:∀w',(Op.stringOp .add ⟨S44.toArray⟩ ⟨D2.toArray⟩).run Tryz.prog w'= .ok (.string ⟨(S44++D2).toArray⟩) w':=bi S44 D2 (by omega);have ahD:(S44++D2).length<=S44.length+D2.length:=bf _ _;generalize hS45:S44++D2=S45 at*
      have afg:=hd0 hS45.symm;clear hS45;have ahJ:∀w',(Op.stringOp .add ⟨S45.toArray⟩ ⟨D3.toArray⟩).run Tryz.prog w'= .ok (.string ⟨(S45++D3).toArray⟩) w':=bi S45 D3 (by omega);have ahb:(S45++D3).length<=S45.length+D3.length:=bf _ _;generalize hS46:S45++D3=S46 at*
      have aeR:=hd0 hS46.symm;clear hS46;clear hf hs0;refine bP (fun v=>Below oJ.heap.size oJ v) (by kernel_rfl) (by kernel_rfl) ((akl oJ.heap.size oJ).drew) ?_;have bK:Nonempty (WIn (fun v=>Below oJ.heap.size oJ v)):=⟨⟨_,((akl oJ.heap.size oJ).drew)⟩⟩
      repeat(go_big_quiet_step (first|with_reducible exact tY.out _|with_reducible exact HA1.out _|with_reducible exact HA2.out _|with_reducible exact CV.out _))
      refine wpQuiet_nil ?_;intro _ hw';obtain⟨xq,hw''⟩:=hw';subst hw'';have ny:Hid (Below W0.heap.size W0 xq.w):=hd0 (acf.out.trans (xq.ok.mono acf.out.size));generalize xq.w=wz at*
      go_wp2_with fail
      go_roundw
      case rel=>exact⟨k+1,by omega,by simp,by rw[hsn.out,aeR.out,afg.out,aen.out,aeB.out],ny.out⟩
      case measure=>simp[intOf];omega
     obtain rfl:k=aid.length:=by omega
     rw[akr];have agr:(S37++aid.flatMap kZ).length<=S37.length+(aid.flatMap kZ).length:=bf _ _;generalize hS47:S37++aid.flatMap kZ=S47 at*
     have afd:=hd0 hS47.symm;clear hS47;have r8:=((aj HX.out).1 _ _ z0).trans (HK.out.cell 8);have c8:BF.cell? ⟨w.heap.size,8,none⟩=some (.slice A8 hint.length d8):=((aj HX.out).1 _ _ z0).trans (HK.out.cell 8);clear r8;have agz:∀w',(Op.stringOp .add ⟨S47.toArray⟩ ⟨H.toArray⟩).run Tryz.prog w'= .ok (.string ⟨(S47++H).toArray⟩) w':=bi S47 H (by omega);have aga:(S47++H).length<=S47.length+H.length:=bf _ _;generalize hS48:S47++H=S48 at*
     have afk:=hd0 hS48.symm;clear hS48;go_wp2_with fail
     refine(HP.out _ _ _ (H8.out.lw ah5.ok HX.out)).mono ?_;rintro e wy ⟨rfl,hby⟩;have HY2:Hid (Below W0.heap.size W0 wy):=hd0 (HX.out.trans (hby.mono HX.out.size));clear hby HP;go_wp2_with fail
     go_ret
     exact⟨by rw[afk.out,afd.out,aeQ.out,ae6.out,ae4.out,aey.out,adu.out,adt.out,aeh.out,HS7.out,HS6.out,LQ.out,HS4.out,HS3.out];rfl,HW.out.trans (HY2.out.mono HW.out.size)⟩
end Go.Proofs.YtkijckccfookeaaGreatDoor
