/- Lemmas. -/
import Derived.Test.YtkijckccfookeaaGreatDoorPrG
import Derived.Test.YtkijckccfookeaaGreatDoorV15
set_option linter.unusedVariables false
set_option linter.unusedSimpArgs false
set_option maxRecDepth 100000
set_option maxHeartbeats 32000000
namespace Go.Proofs.YtkijckccfookeaaGreatDoor
open Go.RowKit
theorem LP (x:Chr):1<=(kY x).length:=by have:=fA x.rune;unfold kY;simp only[la];omega
theorem IV (x:Lookup):1<=(gZ x).length:=by have:=fA x.kind;unfold gZ;simp only[la];omega
theorem IK (x:aip):1<=(jh x).length:=by have:=fA x.name.length;unfold jh qU;simp only[la];omega
theorem Ia (x:aiM):1<=(ji x).length:=by have:=fA x.min';unfold ji;simp only[la];omega
theorem IU (x:aiH):1<=(jO x).length:=by have:=fA x.start;unfold jO;simp only[la];omega
theorem Ls (x:Region):1<=(lh x).length:=by have:=fA x.ah4.length;unfold lh Aq;simp only[la];omega
theorem EJ (x:ahR):1<=(eF x).length:=by have:=fA x.advance;unfold eF;simp only[la];omega
theorem KO (w:World)(f:Fnt)(A1 A2 A3 A4 A5 A6 A7 A8:Option Addr)(d1 d2 d3 d4 d5 d6 d7 d8:Nat)(i0:I64 f.unit)(h1:Sl ahW 9 w (Lw w) A1 f.ahO)(h2:Sl ait 2 w (Lw w) A2 f.chars)(h3:Sl ah1 3 w (Lw w) A3 f.ahP)(h4:Sl ah2 2 w (Lw w) A4 f.features)(h5:Sl aij 4 w (Lw w) A5 f.ahQ)(h6:Sl ah7 1 w (Lw w) A6 f.regions)(h7:Sl aih 1 w (Lw w) A7 f.funcs)(h8:Sl ahT 1 w (Lw w) A8 f.cvt)(hlen:(lF f).length<=100000000000000):
  Calls Tryz.prog 50 #[.agg #[.int .i64 f.unit,.slice A1 f.ahO.length d1,.slice A2 f.chars.length d2,.slice A3 f.ahP.length d3,.slice A4 f.features.length d4,.slice A5 f.ahQ.length d5,.slice A6 f.regions.length d6,.slice A7 f.funcs.length d7,.slice A8 f.cvt.length d8]] w fun e w'=>e= .returned (.string ⟨(lF f).toArray⟩)/\Below w.heap.size w w':=by
 obtain⟨unit,ahO,chars,ahP,ahZ,ahQ,regs,funcs,cvt⟩:=f;have hgl:lF ⟨unit,ahO,chars,ahP,ahZ,ahQ,regs,funcs,cvt⟩=ah unit++ah (ahO.length:Int)++ahO.flatMap eF++ah (chars.length:Int)++chars.flatMap kY++ah (ahP.length:Int)++ahP.flatMap gZ++ah (ahZ.length:Int)++ahZ.flatMap jh++ah (ahQ.length:Int)++ahQ.flatMap ji++ah (regs.length:Int)++regs.flatMap lh++ah (funcs.length:Int)++funcs.flatMap fE++rowB cvt:=by simp[lF,FZ,Qe,L8,J3,PO,P5,L9]
 rw[hgl] at hlen ⊢;clear hgl;simp only[la] at hlen;simp only at i0 h1 h2 h3 h4 h5 h6 h7 h8 ⊢;have n1:I64 (ahO.length:Int):=jW eF EJ ahO (by omega);have ln1:ahO.length<=100000000000000:=nt (eY eF EJ ahO) (by omega);have n2:I64 (chars.length:Int):=jW kY LP chars (by omega);have ln2:chars.length<=100000000000000:=nt (eY kY LP chars) (by omega);have n3:I64 (ahP.length:Int):=jW gZ IV ahP (by omega);have ln3:ahP.length<=100000000000000:=nt (eY gZ IV ahP) (by omega);have n4:I64 (ahZ.length:Int):=jW jh IK ahZ (by omega);have ln4:ahZ.length<=100000000000000:=nt (eY jh IK ahZ) (by omega);have n5:I64 (ahQ.length:Int):=jW ji Ia ahQ (by omega);have ln5:ahQ.length<=100000000000000:=nt (eY ji Ia ahQ) (by omega);have n6:I64 (regs.length:Int):=jW lh Ls regs (by omega);have ln6:regs.length<=100000000000000:=nt (eY lh Ls regs) (by omega);have n7:I64 (funcs.length:Int):=jW fE Ir funcs (by omega);have ln7:funcs.length<=100000000000000:=nt (eY fE Ir funcs) (by omega);have H1:=hd0 h1;have H2:=hd0 h2;have H3:=hd0 h3;have H4:=hd0 h4;have H5:=hd0 h5;have H6:=hd0 h6;have H7:=hd0 h7;have H8:=hd0 h8;have HD0:=hd0 (fun w'=>ay w' _ i0);have HD1:=hd0 (fun w'=>ay w' _ n1);have HD2:=hd0 (fun w'=>ay w' _ n2);have HD3:=hd0 (fun w'=>ay w' _ n3);have HD4:=hd0 (fun w'=>ay w' _ n4);have HD5:=hd0 (fun w'=>ay w' _ n5);have HD6:=hd0 (fun w'=>ay w' _ n6);have HD7:=hd0 (fun w'=>ay w' _ n7);have HE:=hd0 (show(rowB cvt).length<=100000000000000 by omega);have HR:=hd0 (fun w' c A (h:Sl ahT 1 w' (Lw w') A cvt)=>xC w' A c cvt h HE.out);clear i0 HE h1 h2 h3 h4 h5 h6 h7 h8 n1 n2 n3 n4 n5 n6 n7;generalize ah unit=D0 at*
 generalize ah (ahO.length:Int)=D1 at*
 generalize ah (chars.length:Int)=D2 at*
 generalize ah (ahP.length:Int)=D3 at*
 generalize ah (ahZ.length:Int)=D4 at*
 generalize ah (ahQ.length:Int)=D5 at*
 generalize ah (regs.length:Int)=D6 at*
 generalize ah (funcs.length:Int)=D7 at*
 generalize rowB cvt=E at*
 go_enter Tryz.func50,Tryz.ntmps50
 go_wp2_with fail
 obtain⟨W0,hW0⟩:∃W0,w.alloc (.cells #[.int .i64 unit,.slice A1 ahO.length d1,.slice A2 chars.length d2,.slice A3 ahP.length d3,.slice A4 ahZ.length d4,.slice A5 ahQ.length d5,.slice A6 regs.length d6,.slice A7 funcs.length d7,.slice A8 cvt.length d8] 32)=W0:=⟨_,rfl⟩
 rw[hW0];have HW:Hid (Below w.heap.size w W0):=by rw[<-hW0];exact hd0 ((akl _ _).alloc (nr _) _)
 have HK:Hid (Bk W0 w.heap.size 32 #[.int .i64 unit,.slice A1 ahO.length d1,.slice A2 chars.length d2,.slice A3 ahP.length d3,.slice A4 ahZ.length d4,.slice A5 ahQ.length d5,.slice A6 regs.length d6,.slice A7 funcs.length d7,.slice A8 cvt.length d8]):=by rw[<-hW0];exact hd0 (Bk.new _ _ _)
 have z0:w.heap.size<W0.heap.size:=HK.out.lt;clear hW0;replace H1:=hd0 (H1.out.lw ahW.ok HW.out);replace H2:=hd0 (H2.out.lw ait.ok HW.out);replace H3:=hd0 (H3.out.lw ah1.ok HW.out);replace H4:=hd0 (H4.out.lw ah2.ok HW.out);replace H5:=hd0 (H5.out.lw aij.ok HW.out);replace H6:=hd0 (H6.out.lw ah7.ok HW.out);replace H7:=hd0 (H7.out.lw aih.ok HW.out);replace H8:=hd0 (H8.out.lw ahT.ok HW.out);have x0:∀xw:WIn (fun v=>Below W0.heap.size W0 v),xw.w.cell? ⟨w.heap.size,0,none⟩=some (.int .i64 unit):=ax (HK.out.cell 0);have x1:∀xw:WIn (fun v=>Below W0.heap.size W0 v),xw.w.cell? ⟨w.heap.size,1,none⟩=some (.slice A1 ahO.length d1):=ax (HK.out.cell 1);have ae1:∀w',(Op.stringOp .add ⟨D0.toArray⟩ ⟨D1.toArray⟩).run Tryz.prog w'= .ok (.string ⟨(D0++D1).toArray⟩) w':=bi D0 D1 (by omega);have ahK:(D0++D1).length<=D0.length+D1.length:=bf _ _;generalize hS65:D0++D1=S65 at*
 have ad5:=hd0 hS65.symm;clear hS65;have Aj:=hd0 (aK (W:=W0) (fun w' _=>HD0.out w'));have BA:=hd0 (aK (W:=W0) (fun w' _=>HD1.out w'));refine bP (fun v=>Below W0.heap.size W0 v) (by kernel_rfl) (by kernel_rfl) ((akl W0.heap.size W0).drew) ?_;have bK:Nonempty (WIn (fun v=>Below W0.heap.size W0 v)):=⟨⟨_,((akl W0.heap.size W0).drew)⟩⟩
 repeat(go_big_quiet_step (first|with_reducible exact Aj.out _|with_reducible exact BA.out _))
 refine wpQuiet_nil ?_;intro _ hw';obtain⟨xq,hw''⟩:=hw';subst hw'';have UH:Hid (Below W0.heap.size W0 xq.w):=hd0 xq.ok;generalize xq.w=wa at*
 clear x0 x1 Aj BA bK ae1;go_wp2_with fail
 go_loopw [3,4] (fun s i wr=>∃k:Nat,k<=ahO.length/\i= .int .i64 k/\s= .string ⟨(S65++(ahO.take k).flatMap eF).toArray⟩/\Below W0.heap.size W0 wr) (fun _ i _=>ahO.length - (intOf i).toNat)
 case atStart=>exact⟨0,nz _,rfl,by simp,UH.out⟩
 case round=>
  obtain⟨XA,rfl⟩:∃x,x=wr:=⟨_,rfl⟩
  obtain⟨k,hk,rfl,rfl,hb⟩:=hrel;have HX:=hd0 hb;have c1:XA.cell? ⟨w.heap.size,1,none⟩=some (.slice A1 ahO.length d1):=((aj HX.out).1 _ _ z0).trans (HK.out.cell 1);by_cases hlt:k<ahO.length
  ·
   obtain⟨b,o,x,B3,e3,B4,e4,B5,e5,B6,e6,B7,e7,B8,e8,rfl,-,hx,q0,q1,q2,q3,q4,q5,q6,q7,q8,i1,h3,h4,h5,h6,h7,h8⟩:=(H1.out.lw ahW.ok hb).ahU hlt;have hsn:Hid (S65++(ahO.take (k+1)).flatMap eF=S65++(ahO.take k).flatMap eF++eF x):=by show _=_;rw[dS hx.out];simp
   have hf:=gV (f:=eF) hx.out;have hs0:(S65++(ahO.take k).flatMap eF).length<=S65.length+((ahO.take k).flatMap eF).length:=bf _ _;have HA:=hd0 (UF XA x B3 B4 B5 B6 B7 B8 e3 e4 e5 e6 e7 e8 i1 h3 h4 h5 h6 h7 h8 (by omega));generalize S65++(ahO.take k).flatMap eF=S68 at*
   generalize eF x=D9 at*
   have ahk:∀w',(Op.stringOp .add ⟨S68.toArray⟩ ⟨D9.toArray⟩).run Tryz.prog w'= .ok (.string ⟨(S68++D9).toArray⟩) w':=bi S68 D9 (by omega);have ag6:(S68++D9).length<=S68.length+D9.length:=bf _ _;generalize hS69:S68++D9=S69 at*
   have aer:=hd0 hS69.symm;clear hS69;clear hx hf hs0 hb;go_wp2_with fail
   refine HA.out.mono ?_;rintro e wz ⟨rfl,hbz⟩;have ny:Hid (Below W0.heap.size W0 wz):=hd0 (HX.out.trans (hbz.mono HX.out.size));clear hbz HA;go_wp2_with fail
   go_roundw
   case rel=>exact⟨k+1,by omega,by simp,by rw[hsn.out,aer.out],ny.out⟩
   case measure=>simp[intOf];omega
  obtain rfl:k=ahO.length:=by omega
  rw[akr];have ahl:(S65++ahO.flatMap eF).length<=S65.length+(ahO.flatMap eF).length:=bf _ _;generalize hS70:S65++ahO.flatMap eF=S70 at*
  have aez:=hd0 hS70.symm;clear hS70;have c2:XA.cell? ⟨w.heap.size,2,none⟩=some (.slice A2 chars.length d2):=((aj HX.out).1 _ _ z0).trans (HK.out.cell 2);have afY:∀w',(Op.stringOp .add ⟨S70.toArray⟩ ⟨D2.toArray⟩).run Tryz.prog w'= .ok (.string ⟨(S70++D2).toArray⟩) w':=bi S70 D2 (by omega);have agP:(S70++D2).length<=S70.length+D2.length:=bf _ _;generalize hS71:S70++D2=S71 at*
  have ad7:=hd0 hS71.symm;clear hS71;go_wp2_with fail
  refine(HD2.out _).mono ?_;rintro e adN ⟨rfl,hbd⟩;have acS:Hid (Below W0.heap.size W0 adN):=hd0 (HX.out.trans (hbd.mono HX.out.size));clear hbd c2 HX hb;go_wp2_with fail
  go_loopw [3,5] (fun s i wr=>∃k:Nat,k<=chars.length/\i= .int .i64 k/\s= .string ⟨(S71++(chars.take k).flatMap kY).toArray⟩/\Below W0.heap.size W0 wr) (fun _ i _=>chars.length - (intOf i).toNat)
  case atStart=>exact⟨0,nz _,rfl,by simp,acS.out⟩
  case round=>
   obtain⟨mG,rfl⟩:∃x,x=wr:=⟨_,rfl⟩
   obtain⟨k,hk,rfl,rfl,hb⟩:=hrel;have HX:=hd0 hb;have c2:mG.cell? ⟨w.heap.size,2,none⟩=some (.slice A2 chars.length d2):=((aj HX.out).1 _ _ z0).trans (HK.out.cell 2);by_cases hlt:k<chars.length
   ·
    obtain⟨b,o,x,rfl,-,hx,q0,q1,i0,i1⟩:=(H2.out.lw ait.ok hb).chr hlt;have hsn:Hid (S71++(chars.take (k+1)).flatMap kY=S71++(chars.take k).flatMap kY++ah x.rune++ah x.ahU):=by show _=_;rw[dS hx.out];simp[kY]
    have hf:=gV (f:=kY) hx.out;simp only[kY,la,aF,ln] at hf;have hs0:(S71++(chars.take k).flatMap kY).length<=S71.length+((chars.take k).flatMap kY).length:=bf _ _;clear hx;have xc:∀xw:WIn (fun v=>Below mG.heap.size mG v),xw.w.cell? ⟨w.heap.size,2,none⟩=some (.slice (some ⟨b,o,none⟩) chars.length d2):=ax c2;have xq0:∀xw:WIn (fun v=>Below mG.heap.size mG v),xw.w.cell? ⟨b,o+k*2,none⟩=some (.int .i64 x.rune):=ax q0;have xq1:∀xw:WIn (fun v=>Below mG.heap.size mG v),xw.w.cell? ⟨b,o+k*2+1,none⟩=some (.int .i64 x.ahU):=ax q1;have tY:=hd0 (aK (W:=mG) (fun w' _=>ay w' (x.rune) i0));have HA1:=hd0 (aK (W:=mG) (fun w' _=>ay w' (x.ahU) i1));generalize S71++(chars.take k).flatMap kY=S75 at*
    generalize ah x.rune=D0 at*
    generalize ah x.ahU=D1 at*
    have agf:∀w',(Op.stringOp .add ⟨S75.toArray⟩ ⟨D0.toArray⟩).run Tryz.prog w'= .ok (.string ⟨(S75++D0).toArray⟩) w':=bi S75 D0 (by omega);have agx:(S75++D0).length<=S75.length+D0.length:=bf _ _;generalize hS76:S75++D0=S76 at*
    have aeM:=hd0 hS76.symm;clear hS76;have agO:∀w',(Op.stringOp .add ⟨S76.toArray⟩ ⟨D1.toArray⟩).run Tryz.prog w'= .ok (.string ⟨(S76++D1).toArray⟩) w':=bi S76 D1 (by omega);have ahC:(S76++D1).length<=S76.length+D1.length:=bf _ _;generalize hS77:S76++D1=S77 at*
    have aef:=hd0 hS77.symm;clear hS77;clear hf hs0 hb q0 q1;go_wp2_with fail
    refine bP (fun v=>Below mG.heap.size mG v) (by kernel_rfl) (by kernel_rfl) ((akl mG.heap.size mG).drew) ?_;have bK:Nonempty (WIn (fun v=>Below mG.heap.size mG v)):=⟨⟨_,((akl mG.heap.size mG).drew)⟩⟩
    repeat(go_big_quiet_step (first|with_reducible exact tY.out _|with_reducible exact HA1.out _))
    refine wpQuiet_nil ?_;intro _ hw';obtain⟨xq,hw''⟩:=hw';subst hw'';have ny:Hid (Below W0.heap.size W0 xq.w):=hd0 (HX.out.trans (xq.ok.mono HX.out.size));generalize xq.w=wz at*
    go_wp2_with fail
    go_roundw
    case rel=>exact⟨k+1,by omega,by simp,by rw[hsn.out,aef.out,aeM.out],ny.out⟩
    case measure=>simp[intOf];omega
   obtain rfl:k=chars.length:=by omega
   rw[akr];have ahI:(S71++chars.flatMap kY).length<=S71.length+(chars.flatMap kY).length:=bf _ _;generalize hS78:S71++chars.flatMap kY=S78 at*
   have adU:=hd0 hS78.symm;clear hS78;have c3:mG.cell? ⟨w.heap.size,3,none⟩=some (.slice A3 ahP.length d3):=((aj HX.out).1 _ _ z0).trans (HK.out.cell 3);have af1:∀w',(Op.stringOp .add ⟨S78.toArray⟩ ⟨D3.toArray⟩).run Tryz.prog w'= .ok (.string ⟨(S78++D3).toArray⟩) w':=bi S78 D3 (by omega);have agT:(S78++D3).length<=S78.length+D3.length:=bf _ _;generalize hS79:S78++D3=S79 at*
   have afj:=hd0 hS79.symm;clear hS79;go_wp2_with fail
   refine(HD3.out _).mono ?_;rintro e aej ⟨rfl,hbd⟩;have adl:Hid (Below W0.heap.size W0 aej):=hd0 (HX.out.trans (hbd.mono HX.out.size));clear hbd c3 HX hb;go_wp2_with fail
   go_loopw [3,6] (fun s i wr=>∃k:Nat,k<=ahP.length/\i= .int .i64 k/\s= .string ⟨(S79++(ahP.take k).flatMap gZ).toArray⟩/\Below W0.heap.size W0 wr) (fun _ i _=>ahP.length - (intOf i).toNat)
   case atStart=>exact⟨0,nz _,rfl,by simp,adl.out⟩
   case round=>
    obtain⟨VF,rfl⟩:∃x,x=wr:=⟨_,rfl⟩
    obtain⟨k,hk,rfl,rfl,hb⟩:=hrel;have HX:=hd0 hb;have c3:VF.cell? ⟨w.heap.size,3,none⟩=some (.slice A3 ahP.length d3):=((aj HX.out).1 _ _ z0).trans (HK.out.cell 3);by_cases hlt:k<ahP.length
    ·
     obtain⟨b,o,x,B2,e2,rfl,-,hx,q0,q1,q2,i0,h0⟩:=(H3.out.lw ah1.ok hb).lookup hlt;have hsn:Hid (S79++(ahP.take (k+1)).flatMap gZ=S79++(ahP.take k).flatMap gZ++gZ x):=by show _=_;rw[dS hx.out];simp
     have hf:=gV (f:=gZ) hx.out;have hs0:(S79++(ahP.take k).flatMap gZ).length<=S79.length+((ahP.take k).flatMap gZ).length:=bf _ _;have HA:=hd0 (QZ VF x B2 e2 i0 h0 (by omega));generalize S79++(ahP.take k).flatMap gZ=S83 at*
     generalize gZ x=D9 at*
     have ag1:∀w',(Op.stringOp .add ⟨S83.toArray⟩ ⟨D9.toArray⟩).run Tryz.prog w'= .ok (.string ⟨(S83++D9).toArray⟩) w':=bi S83 D9 (by omega);have ag5:(S83++D9).length<=S83.length+D9.length:=bf _ _;generalize hS84:S83++D9=S84 at*
     have aee:=hd0 hS84.symm;clear hS84;clear hx hf hs0 hb;go_wp2_with fail
     refine HA.out.mono ?_;rintro e wz ⟨rfl,hbz⟩;have ny:Hid (Below W0.heap.size W0 wz):=hd0 (HX.out.trans (hbz.mono HX.out.size));clear hbz HA;go_wp2_with fail
     go_roundw
     case rel=>exact⟨k+1,by omega,by simp,by rw[hsn.out,aee.out],ny.out⟩
     case measure=>simp[intOf];omega
    obtain rfl:k=ahP.length:=by omega
    rw[akr];have age:(S79++ahP.flatMap gZ).length<=S79.length+(ahP.flatMap gZ).length:=bf _ _;generalize hS85:S79++ahP.flatMap gZ=S85 at*
    have aeC:=hd0 hS85.symm;clear hS85;have c4:VF.cell? ⟨w.heap.size,4,none⟩=some (.slice A4 ahZ.length d4):=((aj HX.out).1 _ _ z0).trans (HK.out.cell 4);have ahx:∀w',(Op.stringOp .add ⟨S85.toArray⟩ ⟨D4.toArray⟩).run Tryz.prog w'= .ok (.string ⟨(S85++D4).toArray⟩) w':=bi S85 D4 (by omega);have ahv:(S85++D4).length<=S85.length+D4.length:=bf _ _;generalize hS86:S85++D4=S86 at*
    have aea:=hd0 hS86.symm;clear hS86;go_wp2_with fail
    refine(HD4.out _).mono ?_;rintro e adE ⟨rfl,hbd⟩;have adi:Hid (Below W0.heap.size W0 adE):=hd0 (HX.out.trans (hbd.mono HX.out.size));clear hbd c4 HX hb;go_wp2_with fail
    go_loopw [3,7] (fun s i wr=>∃k:Nat,k<=ahZ.length/\i= .int .i64 k/\s= .string ⟨(S86++(ahZ.take k).flatMap jh).toArray⟩/\Below W0.heap.size W0 wr) (fun _ i _=>ahZ.length - (intOf i).toNat)
    case atStart=>exact⟨0,nz _,rfl,by simp,adi.out⟩
    case round=>
     obtain⟨mM,rfl⟩:∃x,x=wr:=⟨_,rfl⟩
     obtain⟨k,hk,rfl,rfl,hb⟩:=hrel;have HX:=hd0 hb;have c4:mM.cell? ⟨w.heap.size,4,none⟩=some (.slice A4 ahZ.length d4):=((aj HX.out).1 _ _ z0).trans (HK.out.cell 4);by_cases hlt:k<ahZ.length
     ·
      obtain⟨b,o,x,B1,e1,rfl,-,hx,q0,q1,h0⟩:=(H4.out.lw ah2.ok hb).ai9 hlt;have hsn:Hid (S86++(ahZ.take (k+1)).flatMap jh=S86++(ahZ.take k).flatMap jh++ah (x.name.length:Int)++x.name++[32]++rowB x.ahP):=by show _=_;rw[dS hx.out];simp[jh,qU]
      have hf:=gV (f:=jh) hx.out;simp only[jh,qU,la,aF,ln] at hf;have hs0:(S86++(ahZ.take k).flatMap jh).length<=S86.length+((ahZ.take k).flatMap jh).length:=bf _ _;clear hx;have xc:∀xw:WIn (fun v=>Below mM.heap.size mM v),xw.w.cell? ⟨w.heap.size,4,none⟩=some (.slice (some ⟨b,o,none⟩) ahZ.length d4):=ax c4;have xq0:∀xw:WIn (fun v=>Below mM.heap.size mM v),xw.w.cell? ⟨b,o+k*2,none⟩=some (.string ⟨x.name.toArray⟩):=ax q0;have xq1:∀xw:WIn (fun v=>Below mM.heap.size mM v),xw.w.cell? ⟨b,o+k*2+1,none⟩=some (.slice B1 x.ahP.length e1):=ax q1;have J6:I64 (x.name.length:Int):=⟨by omega,by omega⟩
      have tY:=hd0 (aK (W:=mM) (fun w' _=>ay w' (x.name.length) J6));clear J6;have HA1:=hd0 (aK (W:=mM) (fun w' hw'=>xC w' B1 e1 x.ahP (h0.lw ahT.ok hw') (by omega)));generalize S86++(ahZ.take k).flatMap jh=S90 at*
      generalize ah (x.name.length:Int)=D0 at*
      generalize rowB x.ahP=D1 at*
      have ahF:∀w',(Op.stringOp .add ⟨S90.toArray⟩ ⟨D0.toArray⟩).run Tryz.prog w'= .ok (.string ⟨(S90++D0).toArray⟩) w':=bi S90 D0 (by omega);have ahu:(S90++D0).length<=S90.length+D0.length:=bf _ _;generalize hS91:S90++D0=S91 at*
      have aeK:=hd0 hS91.symm;clear hS91;have agZ:∀w',(Op.stringOp .add ⟨S91.toArray⟩ ⟨x.name.toArray⟩).run Tryz.prog w'= .ok (.string ⟨(S91++x.name).toArray⟩) w':=bi S91 x.name (by omega);have ahA:(S91++x.name).length<=S91.length+x.name.length:=bf _ _;generalize hS92:S91++x.name=S92 at*
      have aem:=hd0 hS92.symm;clear hS92;have agQ:∀w',(Op.stringOp .add ⟨S92.toArray⟩ ⟨#[32]⟩).run Tryz.prog w'= .ok (.string ⟨(S92++[32]).toArray⟩) w':=bi S92 [32] (by simp only[aF,ln];omega);have agt:(S92++[32]).length<=S92.length+1:=bf _ _;generalize hS93:S92++[32]=S93 at*
      have ad6:=hd0 hS93.symm;clear hS93;have ahM:∀w',(Op.stringOp .add ⟨S93.toArray⟩ ⟨D1.toArray⟩).run Tryz.prog w'= .ok (.string ⟨(S93++D1).toArray⟩) w':=bi S93 D1 (by omega);have ahj:(S93++D1).length<=S93.length+D1.length:=bf _ _;generalize hS94:S93++D1=S94 at*
      have ad4:=hd0 hS94.symm;clear hS94;clear hf hs0 hb q0 q1;go_wp2_with fail
      refine bP (fun v=>Below mM.heap.size mM v) (by kernel_rfl) (by kernel_rfl) ((akl mM.heap.size mM).drew) ?_;have bK:Nonempty (WIn (fun v=>Below mM.heap.size mM v)):=⟨⟨_,((akl mM.heap.size mM).drew)⟩⟩
      repeat(go_big_quiet_step (first|with_reducible exact tY.out _|with_reducible exact HA1.out _))
      refine wpQuiet_nil ?_;intro _ hw';obtain⟨xq,hw''⟩:=hw';subst hw'';have ny:Hid (Below W0.heap.size W0 xq.w):=hd0 (HX.out.trans (xq.ok.mono HX.out.size));generalize xq.w=wz at*
      go_wp2_with fail
      go_roundw
      case rel=>exact⟨k+1,by omega,by simp,by rw[hsn.out,ad4.out,ad6.out,aem.out,aeK.out],ny.out⟩
      case measure=>simp[intOf];omega
     obtain rfl:k=ahZ.length:=by omega
     rw[akr];have ahN:(S86++ahZ.flatMap jh).length<=S86.length+(ahZ.flatMap jh).length:=bf _ _;generalize hS95:S86++ahZ.flatMap jh=S95 at*
     have afi:=hd0 hS95.symm;clear hS95;have c5:mM.cell? ⟨w.heap.size,5,none⟩=some (.slice A5 ahQ.length d5):=((aj HX.out).1 _ _ z0).trans (HK.out.cell 5);have ag8:∀w',(Op.stringOp .add ⟨S95.toArray⟩ ⟨D5.toArray⟩).run Tryz.prog w'= .ok (.string ⟨(S95++D5).toArray⟩) w':=bi S95 D5 (by omega);have ag2:(S95++D5).length<=S95.length+D5.length:=bf _ _;generalize hS96:S95++D5=S96 at*
     have adK:=hd0 hS96.symm;clear hS96;go_wp2_with fail
     refine(HD5.out _).mono ?_;rintro e adY ⟨rfl,hbd⟩;have acH:Hid (Below W0.heap.size W0 adY):=hd0 (HX.out.trans (hbd.mono HX.out.size));clear hbd c5 HX hb;go_wp2_with fail
     go_loopw [3,8] (fun s i wr=>∃k:Nat,k<=ahQ.length/\i= .int .i64 k/\s= .string ⟨(S96++(ahQ.take k).flatMap ji).toArray⟩/\Below W0.heap.size W0 wr) (fun _ i _=>ahQ.length - (intOf i).toNat)
     case atStart=>exact⟨0,nz _,rfl,by simp,acH.out⟩
     case round=>
      obtain⟨Bg,rfl⟩:∃x,x=wr:=⟨_,rfl⟩
      obtain⟨k,hk,rfl,rfl,hb⟩:=hrel;have HX:=hd0 hb;have c5:Bg.cell? ⟨w.heap.size,5,none⟩=some (.slice A5 ahQ.length d5):=((aj HX.out).1 _ _ z0).trans (HK.out.cell 5);by_cases hlt:k<ahQ.length
      ·
       obtain⟨b,o,x,rfl,-,hx,q0,q1,q2,q3,i1,i2,i3⟩:=(H5.out.lw aij.ok hb).aje hlt;have hsn:Hid (S96++(ahQ.take (k+1)).flatMap ji=S96++(ahQ.take k).flatMap ji++ah (x.name.length:Int)++x.name++[32]++ah x.min'++ah x.aiv++ah x.max'):=by show _=_;rw[dS hx.out];simp[ji,qU]
       have hf:=gV (f:=ji) hx.out;simp only[ji,qU,la,aF,ln] at hf;have hs0:(S96++(ahQ.take k).flatMap ji).length<=S96.length+((ahQ.take k).flatMap ji).length:=bf _ _;clear hx hb;go_wp2_with fail
       obtain⟨jQ,hW2⟩:∃W2,Bg.alloc (.cells #[.string ⟨x.name.toArray⟩,.int .i64 x.min',.int .i64 x.aiv,.int .i64 x.max'] 99)=W2:=⟨_,rfl⟩
       rw[hW2];have Yi:Hid (Below W0.heap.size W0 jQ):=by rw[<-hW2];exact hd0 (HX.out.alloc HX.out.size _)
       have b2:Bk jQ Bg.heap.size 99 #[.string ⟨x.name.toArray⟩,.int .i64 x.min',.int .i64 x.aiv,.int .i64 x.max']:=by rw[<-hW2];exact Bk.new _ _ _
       clear hW2;have x0:∀xw:WIn (fun v=>Below jQ.heap.size jQ v),xw.w.cell? ⟨Bg.heap.size,0,none⟩=some (.string ⟨x.name.toArray⟩):=ax (b2.cell 0);have x1:∀xw:WIn (fun v=>Below jQ.heap.size jQ v),xw.w.cell? ⟨Bg.heap.size,1,none⟩=some (.int .i64 x.min'):=ax (b2.cell 1);have x2:∀xw:WIn (fun v=>Below jQ.heap.size jQ v),xw.w.cell? ⟨Bg.heap.size,2,none⟩=some (.int .i64 x.aiv):=ax (b2.cell 2);have x3:∀xw:WIn (fun v=>Below jQ.heap.size jQ v),xw.w.cell? ⟨Bg.heap.size,3,none⟩=some (.int .i64 x.max'):=ax (b2.cell 3);clear b2;have J6:I64 (x.name.length:Int):=⟨by omega,by omega⟩
       have tY:=hd0 (aK (W:=jQ) (fun w' _=>ay w' (x.name.length) J6));clear J6;have HA1:=hd0 (aK (W:=jQ) (fun w' _=>ay w' (x.min') i1));have HA2:=hd0 (aK (W:=jQ) (fun w' _=>ay w' (x.aiv) i2));have CV:=hd0 (aK (W:=jQ) (fun w' _=>ay w' (x.max') i3));generalize S96++(ahQ.take k).flatMap ji=S101 at*
       generalize ah (x.name.length:Int)=D0 at*
       generalize ah x.min'=D1 at*
       generalize ah x.aiv=D2 at*
       generalize ah x.max'=D3 at*
       have aft:∀w',(Op.stringOp .add ⟨S101.toArray⟩ ⟨D0.toArray⟩).run Tryz.prog w'= .ok (.string ⟨(S101++D0).toArray⟩) w':=bi S101 D0 (by omega);have afJ:(S101++D0).length<=S101.length+D0.length:=bf _ _;generalize hS102:S101++D0=S102 at*
       have acG:=hd0 hS102.symm;clear hS102;have afS:∀w',(Op.stringOp .add ⟨S102.toArray⟩ ⟨x.name.toArray⟩).run Tryz.prog w'= .ok (.string ⟨(S102++x.name).toArray⟩) w':=bi S102 x.name (by omega);have afB:(S102++x.name).length<=S102.length+x.name.length:=bf _ _;generalize hS103:S102++x.name=S103 at*
       have acM:=hd0 hS103.symm;clear hS103;have afV:∀w',(Op.stringOp .add ⟨S103.toArray⟩ ⟨#[32]⟩).run Tryz.prog w'= .ok (.string ⟨(S103++[32]).toArray⟩) w':=bi S103 [32] (by simp only[aF,ln];omega);have afq:(S103++[32]).length<=S103.length+1:=bf _ _;generalize hS104:S103++[32]=S104 at*
       have adb:=hd0 hS104.symm;clear hS104;have afu:∀w',(Op.stringOp .add ⟨S104.toArray⟩ ⟨D1.toArray⟩).run Tryz.prog w'= .ok (.string ⟨(S104++D1).toArray⟩) w':=bi S104 D1 (by omega);have afU:(S104++D1).length<=S104.length+D1.length:=bf _ _;generalize hS105:S104++D1=S105 at*
       have acD:=hd0 hS105.symm;clear hS105;have afR:∀w',(Op.stringOp .add ⟨S105.toArray⟩ ⟨D2.toArray⟩).run Tryz.prog w'= .ok (.string ⟨(S105++D2).toArray⟩) w':=bi S105 D2 (by omega);have afH:(S105++D2).length<=S105.length+D2.length:=bf _ _;generalize hS106:S105++D2=S106 at*
       have adf:=hd0 hS106.symm;clear hS106;have afP:∀w',(Op.stringOp .add ⟨S106.toArray⟩ ⟨D3.toArray⟩).run Tryz.prog w'= .ok (.string ⟨(S106++D3).toArray⟩) w':=bi S106 D3 (by omega);have afK:(S106++D3).length<=S106.length+D3.length:=bf _ _;generalize hS107:S106++D3=S107 at*
       have acZ:=hd0 hS107.symm;clear hS107;clear hf hs0;refine bP (fun v=>Below jQ.heap.size jQ v) (by kernel_rfl) (by kernel_rfl) ((akl jQ.heap.size jQ).drew) ?_;have bK:Nonempty (WIn (fun v=>Below jQ.heap.size jQ v)):=⟨⟨_,((akl jQ.heap.size jQ).drew)⟩⟩
       repeat(go_big_quiet_step (first|with_reducible exact tY.out _|with_reducible exact HA1.out _|with_reducible exact HA2.out _|with_reducible exact CV.out _))
       refine wpQuiet_nil ?_;intro _ hw';obtain⟨xq,hw''⟩:=hw';subst hw'';have ny:Hid (Below W0.heap.size W0 xq.w):=hd0 (Yi.out.trans (xq.ok.mono Yi.out.size));generalize xq.w=wz at*
       go_wp2_with fail
       go_roundw
       case rel=>exact⟨k+1,by omega,by simp,by rw[hsn.out,acZ.out,adf.out,acD.out,adb.out,acM.out,acG.out],ny.out⟩
       case measure=>simp[intOf];omega
      obtain rfl:k=ahQ.length:=by omega
      rw[akr];have afA:(S96++ahQ.flatMap ji).length<=S96.length+(ahQ.flatMap ji).length:=bf _ _;generalize hS108:S96++ahQ.flatMap ji=S108 at*
      have adr:=hd0 hS108.symm;clear hS108;have c6:Bg.cell? ⟨w.heap.size,6,none⟩=some (.slice A6 regs.length d6):=((aj HX.out).1 _ _ z0).trans (HK.out.cell 6);have afE:∀w',(Op.stringOp .add ⟨S108.toArray⟩ ⟨D6.toArray⟩).run Tryz.prog w'= .ok (.string ⟨(S108++D6).toArray⟩) w':=bi S108 D6 (by omega);have afM:(S108++D6).length<=S108.length+D6.length:=bf _ _;generalize hS109:S108++D6=S109 at*
      have acX:=hd0 hS109.symm;clear hS109;go_wp2_with fail
      refine(HD6.out _).mono ?_;rintro e acL ⟨rfl,hbd⟩;have aaY:Hid (Below W0.heap.size W0 acL):=hd0 (HX.out.trans (hbd.mono HX.out.size));clear hbd c6 HX hb;go_wp2_with fail
      go_loopw [3,10] (fun s i wr=>∃k:Nat,k<=regs.length/\i= .int .i64 k/\s= .string ⟨(S109++(regs.take k).flatMap lh).toArray⟩/\Below W0.heap.size W0 wr) (fun _ i _=>regs.length - (intOf i).toNat)
      case atStart=>exact⟨0,nz _,rfl,by simp,aaY.out⟩
      case round=>
       obtain⟨sD,rfl⟩:∃x,x=wr:=⟨_,rfl⟩
       obtain⟨k,hk,rfl,rfl,hb⟩:=hrel;have HX:=hd0 hb;have c6:sD.cell? ⟨w.heap.size,6,none⟩=some (.slice A6 regs.length d6):=((aj HX.out).1 _ _ z0).trans (HK.out.cell 6);by_cases hlt:k<regs.length
       ·
        obtain⟨b,o,x,B0,e0,rfl,-,hx,q0,h0⟩:=(H6.out.lw ah7.ok hb).region hlt;have hsn:Hid (S109++(regs.take (k+1)).flatMap lh=S109++(regs.take k).flatMap lh++ah (x.ah4.length:Int)++x.ah4.flatMap jO):=by show _=_;rw[dS hx.out];simp[lh,Aq]
        have hf:=gV (f:=lh) hx.out;simp only[lh,Aq,la] at hf;have hs0:(S109++(regs.take k).flatMap lh).length<=S109.length+((regs.take k).flatMap lh).length:=bf _ _;have n9:I64 (x.ah4.length:Int):=jW jO IU x.ah4 (by omega);have ln9:x.ah4.length<=100000000000000:=nt (eY jO IU x.ah4) (by omega);have K0:=hd0 h0;have HA:=hd0 (fun w'=>ay w' _ n9);clear n9;generalize S109++(regs.take k).flatMap lh=S113 at*
        generalize ah (x.ah4.length:Int)=E0 at*
        have afr:∀w',(Op.stringOp .add ⟨S113.toArray⟩ ⟨E0.toArray⟩).run Tryz.prog w'= .ok (.string ⟨(S113++E0).toArray⟩) w':=bi S113 E0 (by omega);have afO:(S113++E0).length<=S113.length+E0.length:=bf _ _;generalize hS114:S113++E0=S114 at*
        have acU:=hd0 hS114.symm;clear hS114;have zb:=World.block_lt_of_cell? _ _ q0;clear hx hb;go_wp2_with fail
        refine(HA.out _).mono ?_;rintro e wb ⟨rfl,hbb⟩;have Hwb:=hd0 hbb;clear hbb HA;go_wp2_with fail
        go_loopw [3,11] (fun s i wr=>∃j:Nat,j<=x.ah4.length/\i= .int .i64 j/\s= .string ⟨(S114++(x.ah4.take j).flatMap jO).toArray⟩/\Below sD.heap.size sD wr) (fun _ i _=>x.ah4.length - (intOf i).toNat)
        case atStart=>exact⟨0,nz _,rfl,by simp,Hwb.out⟩
        case round=>
         obtain⟨wi,rfl⟩:∃x,x=wr:=⟨_,rfl⟩
         obtain⟨j,hj,rfl,rfl,hb⟩:=hrel;have Dw:Hid (Below sD.heap.size sD wi):=hd0 hb;have HXw:Hid (Below W0.heap.size W0 wi):=hd0 (HX.out.trans (hb.mono HX.out.size));have c6i:wi.cell? ⟨w.heap.size,6,none⟩=some (.slice (some ⟨b,o,none⟩) regs.length d6):=((aj HXw.out).1 _ _ z0).trans (HK.out.cell 6);have q0i:wi.cell? ⟨b,o+k,none⟩=some (.slice B0 x.ah4.length e0):=((aj Dw.out).1 _ _ zb).trans q0;by_cases hltj:j<x.ah4.length
         ·
          obtain⟨b2,o2,y,rfl,-,hy,u0,u1,u2,j0,j1,j2⟩:=(K0.out.lw aiI.ok hb).ajB hltj;have Ee:Hid (S114++(x.ah4.take (j+1)).flatMap jO=S114++(x.ah4.take j).flatMap jO++ah y.start++ah y.peak++ah y.stop):=by show _=_;rw[dS hy.out];simp[jO]
          have hf2:=gV (f:=jO) hy.out;simp only[jO,la] at hf2;have hs2:(S114++(x.ah4.take j).flatMap jO).length<=S114.length+((x.ah4.take j).flatMap jO).length:=bf _ _;clear hy;go_wp2_with fail
          obtain⟨W2,hW2⟩:∃W2,wi.alloc (.cells #[.int .i64 y.start,.int .i64 y.peak,.int .i64 y.stop] 101)=W2:=⟨_,rfl⟩
          rw[hW2];have HW2:Hid (Below sD.heap.size sD W2):=by rw[<-hW2];exact hd0 (Dw.out.alloc Dw.out.size _)
          have b3:Bk W2 wi.heap.size 101 #[.int .i64 y.start,.int .i64 y.peak,.int .i64 y.stop]:=by rw[<-hW2];exact Bk.new _ _ _
          clear hW2;have x0:∀xw:WIn (fun v=>Below W2.heap.size W2 v),xw.w.cell? ⟨wi.heap.size,0,none⟩=some (.int .i64 y.start):=ax (b3.cell 0);have x1:∀xw:WIn (fun v=>Below W2.heap.size W2 v),xw.w.cell? ⟨wi.heap.size,1,none⟩=some (.int .i64 y.peak):=ax (b3.cell 1);have x2:∀xw:WIn (fun v=>Below W2.heap.size W2 v),xw.w.cell? ⟨wi.heap.size,2,none⟩=some (.int .i64 y.stop):=ax (b3.cell 2);have HB0:=hd0 (aK (W:=W2) (fun w' _=>ay w' (y.start) j0));have HB1:=hd0 (aK (W:=W2) (fun w' _=>ay w' (y.peak) j1));have HB2:=hd0 (aK (W:=W2) (fun w' _=>ay w' (y.stop) j2));generalize S114++(x.ah4.take j).flatMap jO=S115 at*
          generalize ah y.start=G0 at*
          generalize ah y.peak=G1 at*
          generalize ah y.stop=G2 at*
          have afs:∀w',(Op.stringOp .add ⟨S115.toArray⟩ ⟨G0.toArray⟩).run Tryz.prog w'= .ok (.string ⟨(S115++G0).toArray⟩) w':=bi S115 G0 (by omega);have afL:(S115++G0).length<=S115.length+G0.length:=bf _ _;generalize hS116:S115++G0=S116 at*
          have adk:=hd0 hS116.symm;clear hS116;have afD:∀w',(Op.stringOp .add ⟨S116.toArray⟩ ⟨G1.toArray⟩).run Tryz.prog w'= .ok (.string ⟨(S116++G1).toArray⟩) w':=bi S116 G1 (by omega);have afI:(S116++G1).length<=S116.length+G1.length:=bf _ _;generalize hS117:S116++G1=S117 at*
          have acE:=hd0 hS117.symm;clear hS117;have afF:∀w',(Op.stringOp .add ⟨S117.toArray⟩ ⟨G2.toArray⟩).run Tryz.prog w'= .ok (.string ⟨(S117++G2).toArray⟩) w':=bi S117 G2 (by omega);have afT:(S117++G2).length<=S117.length+G2.length:=bf _ _;generalize hS118:S117++G2=S118 at*
          have acW:=hd0 hS118.symm;clear hS118;clear b3 hf2 hs2 hb u0 u1 u2 j0 j1 j2;refine bP (fun v=>Below W2.heap.size W2 v) (by kernel_rfl) (by kernel_rfl) ((akl W2.heap.size W2).drew) ?_;have bK:Nonempty (WIn (fun v=>Below W2.heap.size W2 v)):=⟨⟨_,((akl W2.heap.size W2).drew)⟩⟩
          repeat(go_big_quiet_step (first|with_reducible exact HB0.out _|with_reducible exact HB1.out _|with_reducible exact HB2.out _))
          refine wpQuiet_nil ?_;intro _ hw';obtain⟨xq,hw''⟩:=hw';subst hw'';have ny:Hid (Below sD.heap.size sD xq.w):=hd0 (HW2.out.trans (xq.ok.mono HW2.out.size));generalize xq.w=wz at*
          go_wp2_with fail
          go_roundw
          case rel=>exact⟨j+1,by omega,by simp,by rw[Ee.out,acW.out,acE.out,adk.out],ny.out⟩
          case measure=>simp[intOf];omega
         obtain rfl:j=x.ah4.length:=by omega
         rw[akr];generalize hS119:S114++x.ah4.flatMap jO=S119 at*
         have acO:=hd0 hS119.symm;clear hS119 hb hf hs0;go_wp2_with fail
         go_roundw
         case rel=>exact⟨k+1,by omega,by simp,by rw[hsn.out,acO.out,acU.out],HXw.out⟩
         case measure=>simp[intOf];omega
       obtain rfl:k=regs.length:=by omega
       rw[akr];have afw:(S109++regs.flatMap lh).length<=S109.length+(regs.flatMap lh).length:=bf _ _;generalize hS120:S109++regs.flatMap lh=S120 at*
       have ac7:=hd0 hS120.symm;clear hS120;have c7:sD.cell? ⟨w.heap.size,7,none⟩=some (.slice A7 funcs.length d7):=((aj HX.out).1 _ _ z0).trans (HK.out.cell 7);have afN:∀w',(Op.stringOp .add ⟨S120.toArray⟩ ⟨D7.toArray⟩).run Tryz.prog w'= .ok (.string ⟨(S120++D7).toArray⟩) w':=bi S120 D7 (by omega);have afW:(S120++D7).length<=S120.length+D7.length:=bf _ _;generalize hS121:S120++D7=S121 at*
       have ac2:=hd0 hS121.symm;clear hS121;go_wp2_with fail
       refine(HD7.out _).mono ?_;rintro e adh ⟨rfl,hbd⟩;have aaf:Hid (Below W0.heap.size W0 adh):=hd0 (HX.out.trans (hbd.mono HX.out.size));clear hbd c7 HX hb;go_wp2_with fail
       go_loopw [3,13] (fun s i wr=>∃k:Nat,k<=funcs.length/\i= .int .i64 k/\s= .string ⟨(S121++(funcs.take k).flatMap fE).toArray⟩/\Below W0.heap.size W0 wr) (fun _ i _=>funcs.length - (intOf i).toNat)
       case atStart=>exact⟨0,nz _,rfl,by simp,aaf.out⟩
       case round=>
        obtain⟨Q8,rfl⟩:∃x,x=wr:=⟨_,rfl⟩
        obtain⟨k,hk,rfl,rfl,hb⟩:=hrel;have HX:=hd0 hb;have c7:Q8.cell? ⟨w.heap.size,7,none⟩=some (.slice A7 funcs.length d7):=((aj HX.out).1 _ _ z0).trans (HK.out.cell 7);by_cases hlt:k<funcs.length
        ·
         obtain⟨b,o,x,B1,e1,rfl,-,hx,q0,h0⟩:=(H7.out.lw aih.ok hb).code hlt;have hsn:Hid (S121++(funcs.take (k+1)).flatMap fE=S121++(funcs.take k).flatMap fE++fE x):=by show _=_;rw[dS hx.out];simp
         have hf:=gV (f:=fE) hx.out;have hs0:(S121++(funcs.take k).flatMap fE).length<=S121.length+((funcs.take k).flatMap fE).length:=bf _ _;have HA:=hd0 (KI Q8 B1 e1 x h0 (by omega));generalize S121++(funcs.take k).flatMap fE=S125 at*
         generalize fE x=D9 at*
         have afv:∀w',(Op.stringOp .add ⟨S125.toArray⟩ ⟨D9.toArray⟩).run Tryz.prog w'= .ok (.string ⟨(S125++D9).toArray⟩) w':=bi S125 D9 (by omega);have afG:(S125++D9).length<=S125.length+D9.length:=bf _ _;generalize hS126:S125++D9=S126 at*
         have acT:=hd0 hS126.symm;clear hS126;clear hx hf hs0 hb;go_wp2_with fail
         refine HA.out.mono ?_;rintro e wz ⟨rfl,hbz⟩;have ny:Hid (Below W0.heap.size W0 wz):=hd0 (HX.out.trans (hbz.mono HX.out.size));clear hbz HA;go_wp2_with fail
         go_roundw
         case rel=>exact⟨k+1,by omega,by simp,by rw[hsn.out,acT.out],ny.out⟩
         case measure=>simp[intOf];omega
        obtain rfl:k=funcs.length:=by omega
        rw[akr];have afy:(S121++funcs.flatMap fE).length<=S121.length+(funcs.flatMap fE).length:=bf _ _;generalize hS127:S121++funcs.flatMap fE=S127 at*
        have acJ:=hd0 hS127.symm;clear hS127;have c8:Q8.cell? ⟨w.heap.size,8,none⟩=some (.slice A8 cvt.length d8):=((aj HX.out).1 _ _ z0).trans (HK.out.cell 8);have afC:∀w',(Op.stringOp .add ⟨S127.toArray⟩ ⟨E.toArray⟩).run Tryz.prog w'= .ok (.string ⟨(S127++E).toArray⟩) w':=bi S127 E (by omega);have afQ:(S127++E).length<=S127.length+E.length:=bf _ _;generalize hS128:S127++E=S128 at*
        have ac5:=hd0 hS128.symm;clear hS128;go_wp2_with fail
        refine(HR.out _ _ _ (H8.out.lw ahT.ok HX.out)).mono ?_;rintro e wy ⟨rfl,hby⟩;have HY2:Hid (Below W0.heap.size W0 wy):=hd0 (HX.out.trans (hby.mono HX.out.size));clear hby HR;go_wp2_with fail
        go_ret
        exact⟨by rw[ac5.out,acJ.out,ac2.out,ac7.out,acX.out,adr.out,adK.out,afi.out,aea.out,aeC.out,afj.out,adU.out,ad7.out,aez.out,ad5.out];rfl,HW.out.trans (HY2.out.mono HW.out.size)⟩
theorem Y4 (w:World)(f g:Fnt)(fc gc:List Value)(hf:aim w (Lw w) fc f)(hg:aim w (Lw w) gc g)(h1:(lF f).length<=100000000000000)(h2:(lF g).length<=100000000000000):
  Calls Tryz.prog 21 #[.agg fc.toArray,.agg gc.toArray] w fun e w'=>e= .returned (.bool (lF f==lF g))/\Below w.heap.size w w':=by
 obtain⟨A1,c1,A2,c2,A3,c3,A4,c4,A5,c5,A6,c6,A7,c7,A8,c8,rfl,i0,s1,s2,s3,s4,s5,s6,s7,s8⟩:=hf;obtain⟨B1,d1,B2,d2,B3,d3,B4,d4,B5,d5,B6,d6,B7,d7,B8,d8,rfl,j0,t1,t2,t3,t4,t5,t6,t7,t8⟩:=hg;have HF:=hd0 (fun w' (h:Below w.heap.size w w')=>KO w' f A1 A2 A3 A4 A5 A6 A7 A8 c1 c2 c3 c4 c5 c6 c7 c8 i0 (s1.lw ahW.ok h) (s2.lw ait.ok h) (s3.lw ah1.ok h) (s4.lw ah2.ok h) (s5.lw aij.ok h) (s6.lw ah7.ok h) (s7.lw aih.ok h) (s8.lw ahT.ok h) h1);have HG:=hd0 (fun w' (h:Below w.heap.size w w')=>KO w' g B1 B2 B3 B4 B5 B6 B7 B8 d1 d2 d3 d4 d5 d6 d7 d8 j0 (t1.lw ahW.ok h) (t2.lw ait.ok h) (t3.lw ah1.ok h) (t4.lw ah2.ok h) (t5.lw aij.ok h) (t6.lw ah7.ok h) (t7.lw aih.ok h) (t8.lw ahT.ok h) h2);clear s1 s2 s3 s4 s5 s6 s7 s8 t1 t2 t3 t4 t5 t6 t7 t8 i0 j0 h1 h2;generalize lF f=PF at*
 generalize lF g=PG at*
 go_enter Tryz.func21,Tryz.ntmps21
 go_wp2_with fail
 obtain⟨W1,hW1⟩:∃W1,w.alloc (.cells #[.int .i64 f.unit,.slice A1 f.ahO.length c1,.slice A2 f.chars.length c2,.slice A3 f.ahP.length c3,.slice A4 f.features.length c4,.slice A5 f.ahQ.length c5,.slice A6 f.regions.length c6,.slice A7 f.funcs.length c7,.slice A8 f.cvt.length c8] 32)=W1:=⟨_,rfl⟩
 obtain⟨W2,hW2⟩:∃W2,W1.alloc (.cells #[.int .i64 g.unit,.slice B1 g.ahO.length d1,.slice B2 g.chars.length d2,.slice B3 g.ahP.length d3,.slice B4 g.features.length d4,.slice B5 g.ahQ.length d5,.slice B6 g.regions.length d6,.slice B7 g.funcs.length d7,.slice B8 g.cvt.length d8] 32)=W2:=⟨_,rfl⟩
 have hz1:W1.heap.size=w.heap.size+1:=by rw[<-hW1];simp
 rw[hW1,hW2];have k1:Bk W1 w.heap.size 32 #[.int .i64 f.unit,.slice A1 f.ahO.length c1,.slice A2 f.chars.length c2,.slice A3 f.ahP.length c3,.slice A4 f.features.length c4,.slice A5 f.ahQ.length c5,.slice A6 f.regions.length c6,.slice A7 f.funcs.length c7,.slice A8 f.cvt.length c8]:=by rw[<-hW1];exact Bk.new _ _ _
 have k2:Bk W2 W1.heap.size 32 #[.int .i64 g.unit,.slice B1 g.ahO.length d1,.slice B2 g.chars.length d2,.slice B3 g.ahP.length d3,.slice B4 g.features.length d4,.slice B5 g.ahQ.length d5,.slice B6 g.regions.length d6,.slice B7 g.funcs.length d7,.slice B8 g.cvt.length d8]:=by rw[<-hW2];exact Bk.new _ _ _
 have k1':Bk W2 w.heap.size 32 #[.int .i64 f.unit,.slice A1 f.ahO.length c1,.slice A2 f.chars.length c2,.slice A3 f.ahP.length c3,.slice A4 f.features.length c4,.slice A5 f.ahQ.length c5,.slice A6 f.regions.length c6,.slice A7 f.funcs.length c7,.slice A8 f.cvt.length c8]:=by rw[<-hW2];exact k1.alloc _
 have HB:Hid (Below w.heap.size w W2):=by rw[<-hW2,<-hW1];exact hd0 (((akl _ _).alloc (nr _) _).alloc (by simp) _)
 rw[hz1] at k2;clear hW1 hW2 k1 hz1;have x0:∀xw:WIn (fun v=>Below W2.heap.size W2 v),xw.w.cell? ⟨w.heap.size,0,none⟩=some (.int .i64 f.unit):=ax (k1'.cell 0);have x1:∀xw:WIn (fun v=>Below W2.heap.size W2 v),xw.w.cell? ⟨w.heap.size,1,none⟩=some (.slice A1 f.ahO.length c1):=ax (k1'.cell 1);have x2:∀xw:WIn (fun v=>Below W2.heap.size W2 v),xw.w.cell? ⟨w.heap.size,2,none⟩=some (.slice A2 f.chars.length c2):=ax (k1'.cell 2);have x3:∀xw:WIn (fun v=>Below W2.heap.size W2 v),xw.w.cell? ⟨w.heap.size,3,none⟩=some (.slice A3 f.ahP.length c3):=ax (k1'.cell 3);have x4:∀xw:WIn (fun v=>Below W2.heap.size W2 v),xw.w.cell? ⟨w.heap.size,4,none⟩=some (.slice A4 f.features.length c4):=ax (k1'.cell 4);have x5:∀xw:WIn (fun v=>Below W2.heap.size W2 v),xw.w.cell? ⟨w.heap.size,5,none⟩=some (.slice A5 f.ahQ.length c5):=ax (k1'.cell 5);have x6:∀xw:WIn (fun v=>Below W2.heap.size W2 v),xw.w.cell? ⟨w.heap.size,6,none⟩=some (.slice A6 f.regions.length c6):=ax (k1'.cell 6);have x7:∀xw:WIn (fun v=>Below W2.heap.size W2 v),xw.w.cell? ⟨w.heap.size,7,none⟩=some (.slice A7 f.funcs.length c7):=ax (k1'.cell 7);have x8:∀xw:WIn (fun v=>Below W2.heap.size W2 v),xw.w.cell? ⟨w.heap.size,8,none⟩=some (.slice A8 f.cvt.length c8):=ax (k1'.cell 8);have y0:∀xw:WIn (fun v=>Below W2.heap.size W2 v),xw.w.cell? ⟨(w.heap.size+1),0,none⟩=some (.int .i64 g.unit):=ax (k2.cell 0);have y1:∀xw:WIn (fun v=>Below W2.heap.size W2 v),xw.w.cell? ⟨(w.heap.size+1),1,none⟩=some (.slice B1 g.ahO.length d1):=ax (k2.cell 1);have y2:∀xw:WIn (fun v=>Below W2.heap.size W2 v),xw.w.cell? ⟨(w.heap.size+1),2,none⟩=some (.slice B2 g.chars.length d2):=ax (k2.cell 2);have y3:∀xw:WIn (fun v=>Below W2.heap.size W2 v),xw.w.cell? ⟨(w.heap.size+1),3,none⟩=some (.slice B3 g.ahP.length d3):=ax (k2.cell 3);have y4:∀xw:WIn (fun v=>Below W2.heap.size W2 v),xw.w.cell? ⟨(w.heap.size+1),4,none⟩=some (.slice B4 g.features.length d4):=ax (k2.cell 4);have y5:∀xw:WIn (fun v=>Below W2.heap.size W2 v),xw.w.cell? ⟨(w.heap.size+1),5,none⟩=some (.slice B5 g.ahQ.length d5):=ax (k2.cell 5);have y6:∀xw:WIn (fun v=>Below W2.heap.size W2 v),xw.w.cell? ⟨(w.heap.size+1),6,none⟩=some (.slice B6 g.regions.length d6):=ax (k2.cell 6);have y7:∀xw:WIn (fun v=>Below W2.heap.size W2 v),xw.w.cell? ⟨(w.heap.size+1),7,none⟩=some (.slice B7 g.funcs.length d7):=ax (k2.cell 7);have y8:∀xw:WIn (fun v=>Below W2.heap.size W2 v),xw.w.cell? ⟨(w.heap.size+1),8,none⟩=some (.slice B8 g.cvt.length d8):=ax (k2.cell 8);have HFc:=hd0 (aK (W:=W2) (fun w' h=>HF.out w' (HB.out.trans (h.mono HB.out.size))));have HGc:=hd0 (aK (W:=W2) (fun w' h=>HG.out w' (HB.out.trans (h.mono HB.out.size))));clear HF HG k1' k2;refine bP (fun v=>Below W2.heap.size W2 v) (by kernel_rfl) (by kernel_rfl) ((akl W2.heap.size W2).drew) ?_;have bK:Nonempty (WIn (fun v=>Below W2.heap.size W2 v)):=⟨⟨_,((akl W2.heap.size W2).drew)⟩⟩
 repeat(go_big_quiet_step (first|with_reducible exact HFc.out _|with_reducible exact HGc.out _))
 refine wpQuiet_nil ?_;intro _ hw';obtain⟨xq,hw''⟩:=hw';subst hw'';have Hq:=HB.out.trans (xq.ok.mono HB.out.size);go_wp2_with fail
 go_ret
 exact⟨rfl,Hq⟩
end Go.Proofs.YtkijckccfookeaaGreatDoor
