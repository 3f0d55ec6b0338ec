/- Lemmas. -/
import Derived.Test.YtkijckccfookeaaDoorPrG
import Derived.Test.YtkijckccfookeaaDoorX15
set_option linter.unusedVariables false
set_option linter.unusedSimpArgs false
set_option maxRecDepth 100000
set_option maxHeartbeats 32000000
namespace Go.Proofs.YtkijckccfookeaaDoor
open Go.RowKit
theorem He (x:Chr):1<=(jk x).length:=by have:=dL x.rune;unfold jk;simp only[la];omega
theorem Ez (x:Lookup):1<=(dZ x).length:=by have:=dL x.kind;unfold dZ;simp only[la];omega
theorem Eh (x:afd):1<=(gm x).length:=by have:=dL x.name.length;unfold gm lN;simp only[la];omega
theorem DW (x:afp):1<=(fV x).length:=by have:=dL x.min';unfold fV;simp only[la];omega
theorem EC (x:afm):1<=(iC x).length:=by have:=dL x.start;unfold iC;simp only[la];omega
theorem Gf (x:Region):1<=(jC x).length:=by have:=dL x.ae0.length;unfold jC xY;simp only[la];omega
theorem BH (x:aeS):1<=(dD x).length:=by have:=dL x.advance;unfold dD;simp only[la];omega
theorem Ia (w:World)(f:Fnt)(A1 A2 A3 A4 A5 A6 A7 A8:Option Addr)(d1 d2 d3 d4 d5 d6 d7 d8:Nat)(i0:I64 f.unit)(h1:Sl aeU 9 w (Lw w) A1 f.aeN)(h2:Sl afb 2 w (Lw w) A2 f.chars)(h3:Sl aeV 3 w (Lw w) A3 f.aeO)(h4:Sl aeW 2 w (Lw w) A4 f.features)(h5:Sl ae2 4 w (Lw w) A5 f.aeP)(h6:Sl aeY 1 w (Lw w) A6 f.regions)(h7:Sl ae1 1 w (Lw w) A7 f.funcs)(h8:Sl aeQ 1 w (Lw w) A8 f.cvt)(hlen:(eF f).length<=100000000000000):
  Calls Tryd.prog 29 #[.agg #[.int .i64 f.unit,.slice A1 f.aeN.length d1,.slice A2 f.chars.length d2,.slice A3 f.aeO.length d3,.slice A4 f.features.length d4,.slice A5 f.aeP.length d5,.slice A6 f.regions.length d6,.slice A7 f.funcs.length d7,.slice A8 f.cvt.length d8]] w fun e w'=>e= .returned (.string ⟨(eF f).toArray⟩)/\Below w.heap.size w w':=by
 obtain⟨unit,aeN,chars,aeO,aeX,aeP,regs,funcs,cvt⟩:=f;have hgl:eF ⟨unit,aeN,chars,aeO,aeX,aeP,regs,funcs,cvt⟩=ah unit++ah (aeN.length:Int)++aeN.flatMap dD++ah (chars.length:Int)++chars.flatMap jk++ah (aeO.length:Int)++aeO.flatMap dZ++ah (aeX.length:Int)++aeX.flatMap gm++ah (aeP.length:Int)++aeP.flatMap fV++ah (regs.length:Int)++regs.flatMap jC++ah (funcs.length:Int)++funcs.flatMap dO++rowB cvt:=by simp[eF,Cm,Na,GM,Iw,MB,ND,Ir]
 rw[hgl] at hlen ⊢;clear hgl;simp only[la] at hlen;simp only at i0 h1 h2 h3 h4 h5 h6 h7 h8 ⊢;have n1:I64 (aeN.length:Int):=jy dD BH aeN (by omega);have ln1:aeN.length<=100000000000000:=nt (dM dD BH aeN) (by omega);have n2:I64 (chars.length:Int):=jy jk He chars (by omega);have ln2:chars.length<=100000000000000:=nt (dM jk He chars) (by omega);have n3:I64 (aeO.length:Int):=jy dZ Ez aeO (by omega);have ln3:aeO.length<=100000000000000:=nt (dM dZ Ez aeO) (by omega);have n4:I64 (aeX.length:Int):=jy gm Eh aeX (by omega);have ln4:aeX.length<=100000000000000:=nt (dM gm Eh aeX) (by omega);have n5:I64 (aeP.length:Int):=jy fV DW aeP (by omega);have ln5:aeP.length<=100000000000000:=nt (dM fV DW aeP) (by omega);have n6:I64 (regs.length:Int):=jy jC Gf regs (by omega);have ln6:regs.length<=100000000000000:=nt (dM jC Gf regs) (by omega);have n7:I64 (funcs.length:Int):=jy dO EL funcs (by omega);have ln7:funcs.length<=100000000000000:=nt (dM dO EL funcs) (by omega);have H1:=hd0 h1;have H2:=hd0 h2;have H3:=hd0 h3;have H4:=hd0 h4;have H5:=hd0 h5;have H6:=hd0 h6;have H7:=hd0 h7;have H8:=hd0 h8;have HD0:=hd0 (fun w'=>aA w' _ i0);have HD1:=hd0 (fun w'=>aA w' _ n1);have HD2:=hd0 (fun w'=>aA w' _ n2);have HD3:=hd0 (fun w'=>aA w' _ n3);have HD4:=hd0 (fun w'=>aA w' _ n4);have HD5:=hd0 (fun w'=>aA w' _ n5);have HD6:=hd0 (fun w'=>aA w' _ n6);have HD7:=hd0 (fun w'=>aA w' _ n7);have HE:=hd0 (show(rowB cvt).length<=100000000000000 by omega);have HR:=hd0 (fun w' c A (h:Sl aeQ 1 w' (Lw w') A cvt)=>um w' A c cvt h HE.out);clear i0 HE h1 h2 h3 h4 h5 h6 h7 h8 n1 n2 n3 n4 n5 n6 n7;generalize ah unit=D0 at*
 generalize ah (aeN.length:Int)=D1 at*
 generalize ah (chars.length:Int)=D2 at*
 generalize ah (aeO.length:Int)=D3 at*
 generalize ah (aeX.length:Int)=D4 at*
 generalize ah (aeP.length:Int)=D5 at*
 generalize ah (regs.length:Int)=D6 at*
 generalize ah (funcs.length:Int)=D7 at*
 generalize rowB cvt=E at*
 go_enter Tryd.func29,Tryd.ntmps29
 go_wp2_with fail
 obtain⟨W0,hW0⟩:∃W0,w.alloc (.cells #[.int .i64 unit,.slice A1 aeN.length d1,.slice A2 chars.length d2,.slice A3 aeO.length d3,.slice A4 aeX.length d4,.slice A5 aeP.length d5,.slice A6 regs.length d6,.slice A7 funcs.length d7,.slice A8 cvt.length d8] 32)=W0:=⟨_,rfl⟩
 rw[hW0];have HW:Hid (Below w.heap.size w W0):=by rw[<-hW0];exact hd0 ((agE _ _).alloc (ai _) _)
 have HK:Hid (Bk W0 w.heap.size 32 #[.int .i64 unit,.slice A1 aeN.length d1,.slice A2 chars.length d2,.slice A3 aeO.length d3,.slice A4 aeX.length d4,.slice A5 aeP.length d5,.slice A6 regs.length d6,.slice A7 funcs.length d7,.slice A8 cvt.length d8]):=by rw[<-hW0];exact hd0 (Bk.new _ _ _)
 have z0:w.heap.size<W0.heap.size:=HK.out.lt;clear hW0;replace H1:=hd0 (H1.out.lw aeU.ok HW.out);replace H2:=hd0 (H2.out.lw afb.ok HW.out);replace H3:=hd0 (H3.out.lw aeV.ok HW.out);replace H4:=hd0 (H4.out.lw aeW.ok HW.out);replace H5:=hd0 (H5.out.lw ae2.ok HW.out);replace H6:=hd0 (H6.out.lw aeY.ok HW.out);replace H7:=hd0 (H7.out.lw ae1.ok HW.out);replace H8:=hd0 (H8.out.lw aeQ.ok HW.out);have x0:∀xw:WIn (fun v=>Below W0.heap.size W0 v),xw.w.cell? ⟨w.heap.size,0,none⟩=some (.int .i64 unit):=ag (HK.out.cell 0);have x1:∀xw:WIn (fun v=>Below W0.heap.size W0 v),xw.w.cell? ⟨w.heap.size,1,none⟩=some (.slice A1 aeN.length d1):=ag (HK.out.cell 1);have aaO:∀w',(Op.stringOp .add ⟨D0.toArray⟩ ⟨D1.toArray⟩).run Tryd.prog w'= .ok (.string ⟨(D0++D1).toArray⟩) w':=bf D0 D1 (by omega);have aet:(D0++D1).length<=D0.length+D1.length:=aW _ _;generalize hS65:D0++D1=S65 at*
 have aaC:=hd0 hS65.symm;clear hS65;have xC:=hd0 (aC (W:=W0) (fun w' _=>HD0.out w'));have xX:=hd0 (aC (W:=W0) (fun w' _=>HD1.out w'));refine bT (fun v=>Below W0.heap.size W0 v) (by kernel_rfl) (by kernel_rfl) ((agE W0.heap.size W0).drew) ?_;have aQ:Nonempty (WIn (fun v=>Below W0.heap.size W0 v)):=⟨⟨_,((agE W0.heap.size W0).drew)⟩⟩
 repeat(go_big_quiet_step (first|with_reducible exact xC.out _|with_reducible exact xX.out _))
 refine wpQuiet_nil ?_;intro _ hw';obtain⟨xq,hw''⟩:=hw';subst hw'';have Pv:Hid (Below W0.heap.size W0 xq.w):=hd0 xq.ok;generalize xq.w=wa at*
 clear x0 x1 xC xX aQ aaO;go_wp2_with fail
 go_loopw [3,4] (fun s i wr=>∃k:Nat,k<=aeN.length/\i= .int .i64 k/\s= .string ⟨(S65++(aeN.take k).flatMap dD).toArray⟩/\Below W0.heap.size W0 wr) (fun _ i _=>aeN.length - (intOf i).toNat)
 case atStart=>exact⟨0,nz _,rfl,by simp,Pv.out⟩
 case round=>
  obtain⟨Q5,rfl⟩:∃x,x=wr:=⟨_,rfl⟩
  obtain⟨k,hk,rfl,rfl,hb⟩:=hrel;have HX:=hd0 hb;have c1:Q5.cell? ⟨w.heap.size,1,none⟩=some (.slice A1 aeN.length d1):=((aP HX.out).1 _ _ z0).trans (HK.out.cell 1);by_cases hlt:k<aeN.length
  ·
   obtain⟨b,o,x,B3,e3,B4,e4,B5,e5,B6,e6,B7,e7,B8,e8,rfl,-,hx,q0,q1,q2,q3,q4,q5,q6,q7,q8,i1,h3,h4,h5,h6,h7,h8⟩:=(H1.out.lw aeU.ok hb).aeT hlt;have hsn:Hid (S65++(aeN.take (k+1)).flatMap dD=S65++(aeN.take k).flatMap dD++dD x):=by show _=_;rw[dB hx.out];simp
   have hf:=eX (f:=dD) hx.out;have hs0:(S65++(aeN.take k).flatMap dD).length<=S65.length+((aeN.take k).flatMap dD).length:=aW _ _;have HA:=hd0 (Pj Q5 x B3 B4 B5 B6 B7 B8 e3 e4 e5 e6 e7 e8 i1 h3 h4 h5 h6 h7 h8 (by omega));generalize S65++(aeN.take k).flatMap dD=S68 at*
   generalize dD x=D9 at*
   have adk:∀w',(Op.stringOp .add ⟨S68.toArray⟩ ⟨D9.toArray⟩).run Tryd.prog w'= .ok (.string ⟨(S68++D9).toArray⟩) w':=bf S68 D9 (by omega);have ac8:(S68++D9).length<=S68.length+D9.length:=aW _ _;generalize hS69:S68++D9=S69 at*
   have aaJ:=hd0 hS69.symm;clear hS69;clear hx hf hs0 hb;go_wp2_with fail
   refine HA.out.mono ?_;rintro e wz ⟨rfl,hbz⟩;have lq:Hid (Below W0.heap.size W0 wz):=hd0 (HX.out.trans (hbz.mono HX.out.size));clear hbz HA;go_wp2_with fail
   go_roundw
   case rel=>exact⟨k+1,by omega,by simp,by rw[hsn.out,aaJ.out],lq.out⟩
   case measure=>simp[intOf];omega
  obtain rfl:k=aeN.length:=by omega
  rw[agK];have adS:(S65++aeN.flatMap dD).length<=S65.length+(aeN.flatMap dD).length:=aW _ _;generalize hS70:S65++aeN.flatMap dD=S70 at*
  have aaV:=hd0 hS70.symm;clear hS70;have c2:Q5.cell? ⟨w.heap.size,2,none⟩=some (.slice A2 chars.length d2):=((aP HX.out).1 _ _ z0).trans (HK.out.cell 2);have aeh:∀w',(Op.stringOp .add ⟨S70.toArray⟩ ⟨D2.toArray⟩).run Tryd.prog w'= .ok (.string ⟨(S70++D2).toArray⟩) w':=bf S70 D2 (by omega);have aey:(S70++D2).length<=S70.length+D2.length:=aW _ _;generalize hS71:S70++D2=S71 at*
  have ab1:=hd0 hS71.symm;clear hS71;go_wp2_with fail
  refine(HD2.out _).mono ?_;rintro e aaH ⟨rfl,hbd⟩;have ZZ:Hid (Below W0.heap.size W0 aaH):=hd0 (HX.out.trans (hbd.mono HX.out.size));clear hbd c2 HX hb;go_wp2_with fail
  go_loopw [3,5] (fun s i wr=>∃k:Nat,k<=chars.length/\i= .int .i64 k/\s= .string ⟨(S71++(chars.take k).flatMap jk).toArray⟩/\Below W0.heap.size W0 wr) (fun _ i _=>chars.length - (intOf i).toNat)
  case atStart=>exact⟨0,nz _,rfl,by simp,ZZ.out⟩
  case round=>
   obtain⟨kP,rfl⟩:∃x,x=wr:=⟨_,rfl⟩
   obtain⟨k,hk,rfl,rfl,hb⟩:=hrel;have HX:=hd0 hb;have c2:kP.cell? ⟨w.heap.size,2,none⟩=some (.slice A2 chars.length d2):=((aP HX.out).1 _ _ z0).trans (HK.out.cell 2);by_cases hlt:k<chars.length
   ·
    obtain⟨b,o,x,rfl,-,hx,q0,q1,i0,i1⟩:=(H2.out.lw afb.ok hb).chr hlt;have hsn:Hid (S71++(chars.take (k+1)).flatMap jk=S71++(chars.take k).flatMap jk++ah x.rune++ah x.aeT):=by show _=_;rw[dB hx.out];simp[jk]
    have hf:=eX (f:=jk) hx.out;simp only[jk,la,aV,ln] at hf;have hs0:(S71++(chars.take k).flatMap jk).length<=S71.length+((chars.take k).flatMap jk).length:=aW _ _;clear hx;have xc:∀xw:WIn (fun v=>Below kP.heap.size kP v),xw.w.cell? ⟨w.heap.size,2,none⟩=some (.slice (some ⟨b,o,none⟩) chars.length d2):=ag c2;have xq0:∀xw:WIn (fun v=>Below kP.heap.size kP v),xw.w.cell? ⟨b,o+k*2,none⟩=some (.int .i64 x.rune):=ag q0;have xq1:∀xw:WIn (fun v=>Below kP.heap.size kP v),xw.w.cell? ⟨b,o+k*2+1,none⟩=some (.int .i64 x.aeT):=ag q1;have nI:=hd0 (aC (W:=kP) (fun w' _=>aA w' (x.rune) i0));have HA1:=hd0 (aC (W:=kP) (fun w' _=>aA w' (x.aeT) i1));generalize S71++(chars.take k).flatMap jk=S75 at*
    generalize ah x.rune=D0 at*
    generalize ah x.aeT=D1 at*
    have aeb:∀w',(Op.stringOp .add ⟨S75.toArray⟩ ⟨D0.toArray⟩).run Tryd.prog w'= .ok (.string ⟨(S75++D0).toArray⟩) w':=bf S75 D0 (by omega);have ac2:(S75++D0).length<=S75.length+D0.length:=aW _ _;generalize hS76:S75++D0=S76 at*
    have abn:=hd0 hS76.symm;clear hS76;have ads:∀w',(Op.stringOp .add ⟨S76.toArray⟩ ⟨D1.toArray⟩).run Tryd.prog w'= .ok (.string ⟨(S76++D1).toArray⟩) w':=bf S76 D1 (by omega);have ac6:(S76++D1).length<=S76.length+D1.length:=aW _ _;generalize hS77:S76++D1=S77 at*
    have abt:=hd0 hS77.symm;clear hS77;clear hf hs0 hb q0 q1;go_wp2_with fail
    refine bT (fun v=>Below kP.heap.size kP v) (by kernel_rfl) (by kernel_rfl) ((agE kP.heap.size kP).drew) ?_;have aQ:Nonempty (WIn (fun v=>Below kP.heap.size kP v)):=⟨⟨_,((agE kP.heap.size kP).drew)⟩⟩
    repeat(go_big_quiet_step (first|with_reducible exact nI.out _|with_reducible exact HA1.out _))
    refine wpQuiet_nil ?_;intro _ hw';obtain⟨xq,hw''⟩:=hw';subst hw'';have lq:Hid (Below W0.heap.size W0 xq.w):=hd0 (HX.out.trans (xq.ok.mono HX.out.size));generalize xq.w=wz at*
    go_wp2_with fail
    go_roundw
    case rel=>exact⟨k+1,by omega,by simp,by rw[hsn.out,abt.out,abn.out],lq.out⟩
    case measure=>simp[intOf];omega
   obtain rfl:k=chars.length:=by omega
   rw[agK];have aei:(S71++chars.flatMap jk).length<=S71.length+(chars.flatMap jk).length:=aW _ _;generalize hS78:S71++chars.flatMap jk=S78 at*
   have aar:=hd0 hS78.symm;clear hS78;have c3:kP.cell? ⟨w.heap.size,3,none⟩=some (.slice A3 aeO.length d3):=((aP HX.out).1 _ _ z0).trans (HK.out.cell 3);have aeL:∀w',(Op.stringOp .add ⟨S78.toArray⟩ ⟨D3.toArray⟩).run Tryd.prog w'= .ok (.string ⟨(S78++D3).toArray⟩) w':=bf S78 D3 (by omega);have aeK:(S78++D3).length<=S78.length+D3.length:=aW _ _;generalize hS79:S78++D3=S79 at*
   have abJ:=hd0 hS79.symm;clear hS79;go_wp2_with fail
   refine(HD3.out _).mono ?_;rintro e abU ⟨rfl,hbd⟩;have aad:Hid (Below W0.heap.size W0 abU):=hd0 (HX.out.trans (hbd.mono HX.out.size));clear hbd c3 HX hb;go_wp2_with fail
   go_loopw [3,6] (fun s i wr=>∃k:Nat,k<=aeO.length/\i= .int .i64 k/\s= .string ⟨(S79++(aeO.take k).flatMap dZ).toArray⟩/\Below W0.heap.size W0 wr) (fun _ i _=>aeO.length - (intOf i).toNat)
   case atStart=>exact⟨0,nz _,rfl,by simp,aad.out⟩
   case round=>
    obtain⟨QT,rfl⟩:∃x,x=wr:=⟨_,rfl⟩
    obtain⟨k,hk,rfl,rfl,hb⟩:=hrel;have HX:=hd0 hb;have c3:QT.cell? ⟨w.heap.size,3,none⟩=some (.slice A3 aeO.length d3):=((aP HX.out).1 _ _ z0).trans (HK.out.cell 3);by_cases hlt:k<aeO.length
    ·
     obtain⟨b,o,x,B2,e2,rfl,-,hx,q0,q1,q2,i0,h0⟩:=(H3.out.lw aeV.ok hb).lookup hlt;have hsn:Hid (S79++(aeO.take (k+1)).flatMap dZ=S79++(aeO.take k).flatMap dZ++dZ x):=by show _=_;rw[dB hx.out];simp
     have hf:=eX (f:=dZ) hx.out;have hs0:(S79++(aeO.take k).flatMap dZ).length<=S79.length+((aeO.take k).flatMap dZ).length:=aW _ _;have HA:=hd0 (MM QT x B2 e2 i0 h0 (by omega));generalize S79++(aeO.take k).flatMap dZ=S83 at*
     generalize dZ x=D9 at*
     have ac3:∀w',(Op.stringOp .add ⟨S83.toArray⟩ ⟨D9.toArray⟩).run Tryd.prog w'= .ok (.string ⟨(S83++D9).toArray⟩) w':=bf S83 D9 (by omega);have aeg:(S83++D9).length<=S83.length+D9.length:=aW _ _;generalize hS84:S83++D9=S84 at*
     have abk:=hd0 hS84.symm;clear hS84;clear hx hf hs0 hb;go_wp2_with fail
     refine HA.out.mono ?_;rintro e wz ⟨rfl,hbz⟩;have lq:Hid (Below W0.heap.size W0 wz):=hd0 (HX.out.trans (hbz.mono HX.out.size));clear hbz HA;go_wp2_with fail
     go_roundw
     case rel=>exact⟨k+1,by omega,by simp,by rw[hsn.out,abk.out],lq.out⟩
     case measure=>simp[intOf];omega
    obtain rfl:k=aeO.length:=by omega
    rw[agK];have adh:(S79++aeO.flatMap dZ).length<=S79.length+(aeO.flatMap dZ).length:=aW _ _;generalize hS85:S79++aeO.flatMap dZ=S85 at*
    have ab6:=hd0 hS85.symm;clear hS85;have c4:QT.cell? ⟨w.heap.size,4,none⟩=some (.slice A4 aeX.length d4):=((aP HX.out).1 _ _ z0).trans (HK.out.cell 4);have aej:∀w',(Op.stringOp .add ⟨S85.toArray⟩ ⟨D4.toArray⟩).run Tryd.prog w'= .ok (.string ⟨(S85++D4).toArray⟩) w':=bf S85 D4 (by omega);have adJ:(S85++D4).length<=S85.length+D4.length:=aW _ _;generalize hS86:S85++D4=S86 at*
    have aay:=hd0 hS86.symm;clear hS86;go_wp2_with fail
    refine(HD4.out _).mono ?_;rintro e aaB ⟨rfl,hbd⟩;have ZL:Hid (Below W0.heap.size W0 aaB):=hd0 (HX.out.trans (hbd.mono HX.out.size));clear hbd c4 HX hb;go_wp2_with fail
    go_loopw [3,7] (fun s i wr=>∃k:Nat,k<=aeX.length/\i= .int .i64 k/\s= .string ⟨(S86++(aeX.take k).flatMap gm).toArray⟩/\Below W0.heap.size W0 wr) (fun _ i _=>aeX.length - (intOf i).toNat)
    case atStart=>exact⟨0,nz _,rfl,by simp,ZL.out⟩
    case round=>
     obtain⟨kQ,rfl⟩:∃x,x=wr:=⟨_,rfl⟩
     obtain⟨k,hk,rfl,rfl,hb⟩:=hrel;have HX:=hd0 hb;have c4:kQ.cell? ⟨w.heap.size,4,none⟩=some (.slice A4 aeX.length d4):=((aP HX.out).1 _ _ z0).trans (HK.out.cell 4);by_cases hlt:k<aeX.length
     ·
      obtain⟨b,o,x,B1,e1,rfl,-,hx,q0,q1,h0⟩:=(H4.out.lw aeW.ok hb).afH hlt;have hsn:Hid (S86++(aeX.take (k+1)).flatMap gm=S86++(aeX.take k).flatMap gm++ah (x.name.length:Int)++x.name++[32]++rowB x.aeO):=by show _=_;rw[dB hx.out];simp[gm,lN]
      have hf:=eX (f:=gm) hx.out;simp only[gm,lN,la,aV,ln] at hf;have hs0:(S86++(aeX.take k).flatMap gm).length<=S86.length+((aeX.take k).flatMap gm).length:=aW _ _;clear hx;have xc:∀xw:WIn (fun v=>Below kQ.heap.size kQ v),xw.w.cell? ⟨w.heap.size,4,none⟩=some (.slice (some ⟨b,o,none⟩) aeX.length d4):=ag c4;have xq0:∀xw:WIn (fun v=>Below kQ.heap.size kQ v),xw.w.cell? ⟨b,o+k*2,none⟩=some (.string ⟨x.name.toArray⟩):=ag q0;have xq1:∀xw:WIn (fun v=>Below kQ.heap.size kQ v),xw.w.cell? ⟨b,o+k*2+1,none⟩=some (.slice B1 x.aeO.length e1):=ag q1;have FX:I64 (x.name.length:Int):=⟨by omega,by omega⟩
      have nI:=hd0 (aC (W:=kQ) (fun w' _=>aA w' (x.name.length) FX));clear FX;have HA1:=hd0 (aC (W:=kQ) (fun w' hw'=>um w' B1 e1 x.aeO (h0.lw aeQ.ok hw') (by omega)));generalize S86++(aeX.take k).flatMap gm=S90 at*
      generalize ah (x.name.length:Int)=D0 at*
      generalize rowB x.aeO=D1 at*
      have acZ:∀w',(Op.stringOp .add ⟨S90.toArray⟩ ⟨D0.toArray⟩).run Tryd.prog w'= .ok (.string ⟨(S90++D0).toArray⟩) w':=bf S90 D0 (by omega);have adY:(S90++D0).length<=S90.length+D0.length:=aW _ _;generalize hS91:S90++D0=S91 at*
      have abN:=hd0 hS91.symm;clear hS91;have adT:∀w',(Op.stringOp .add ⟨S91.toArray⟩ ⟨x.name.toArray⟩).run Tryd.prog w'= .ok (.string ⟨(S91++x.name).toArray⟩) w':=bf S91 x.name (by omega);have adE:(S91++x.name).length<=S91.length+x.name.length:=aW _ _;generalize hS92:S91++x.name=S92 at*
      have aaz:=hd0 hS92.symm;clear hS92;have ad6:∀w',(Op.stringOp .add ⟨S92.toArray⟩ ⟨#[32]⟩).run Tryd.prog w'= .ok (.string ⟨(S92++[32]).toArray⟩) w':=bf S92 [32] (by simp only[aV,ln];omega);have ad8:(S92++[32]).length<=S92.length+1:=aW _ _;generalize hS93:S92++[32]=S93 at*
      have abG:=hd0 hS93.symm;clear hS93;have ael:∀w',(Op.stringOp .add ⟨S93.toArray⟩ ⟨D1.toArray⟩).run Tryd.prog w'= .ok (.string ⟨(S93++D1).toArray⟩) w':=bf S93 D1 (by omega);have aeo:(S93++D1).length<=S93.length+D1.length:=aW _ _;generalize hS94:S93++D1=S94 at*
      have aaS:=hd0 hS94.symm;clear hS94;clear hf hs0 hb q0 q1;go_wp2_with fail
      refine bT (fun v=>Below kQ.heap.size kQ v) (by kernel_rfl) (by kernel_rfl) ((agE kQ.heap.size kQ).drew) ?_;have aQ:Nonempty (WIn (fun v=>Below kQ.heap.size kQ v)):=⟨⟨_,((agE kQ.heap.size kQ).drew)⟩⟩
      repeat(go_big_quiet_step (first|with_reducible exact nI.out _|with_reducible exact HA1.out _))
      refine wpQuiet_nil ?_;intro _ hw';obtain⟨xq,hw''⟩:=hw';subst hw'';have lq:Hid (Below W0.heap.size W0 xq.w):=hd0 (HX.out.trans (xq.ok.mono HX.out.size));generalize xq.w=wz at*
      go_wp2_with fail
      go_roundw
      case rel=>exact⟨k+1,by omega,by simp,by rw[hsn.out,aaS.out,abG.out,aaz.out,abN.out],lq.out⟩
      case measure=>simp[intOf];omega
     obtain rfl:k=aeX.length:=by omega
     rw[agK];have ac9:(S86++aeX.flatMap gm).length<=S86.length+(aeX.flatMap gm).length:=aW _ _;generalize hS95:S86++aeX.flatMap gm=S95 at*
     have acg:=hd0 hS95.symm;clear hS95;have c5:kQ.cell? ⟨w.heap.size,5,none⟩=some (.slice A5 aeP.length d5):=((aP HX.out).1 _ _ z0).trans (HK.out.cell 5);have ado:∀w',(Op.stringOp .add ⟨S95.toArray⟩ ⟨D5.toArray⟩).run Tryd.prog w'= .ok (.string ⟨(S95++D5).toArray⟩) w':=bf S95 D5 (by omega);have adp:(S95++D5).length<=S95.length+D5.length:=aW _ _;generalize hS96:S95++D5=S96 at*
     have abj:=hd0 hS96.symm;clear hS96;go_wp2_with fail
     refine(HD5.out _).mono ?_;rintro e aaT ⟨rfl,hbd⟩;have aaj:Hid (Below W0.heap.size W0 aaT):=hd0 (HX.out.trans (hbd.mono HX.out.size));clear hbd c5 HX hb;go_wp2_with fail
     go_loopw [3,8] (fun s i wr=>∃k:Nat,k<=aeP.length/\i= .int .i64 k/\s= .string ⟨(S96++(aeP.take k).flatMap fV).toArray⟩/\Below W0.heap.size W0 wr) (fun _ i _=>aeP.length - (intOf i).toNat)
     case atStart=>exact⟨0,nz _,rfl,by simp,aaj.out⟩
     case round=>
      obtain⟨xB,rfl⟩:∃x,x=wr:=⟨_,rfl⟩
      obtain⟨k,hk,rfl,rfl,hb⟩:=hrel;have HX:=hd0 hb;have c5:xB.cell? ⟨w.heap.size,5,none⟩=some (.slice A5 aeP.length d5):=((aP HX.out).1 _ _ z0).trans (HK.out.cell 5);by_cases hlt:k<aeP.length
      ·
       obtain⟨b,o,x,rfl,-,hx,q0,q1,q2,q3,i1,i2,i3⟩:=(H5.out.lw ae2.ok hb).afE hlt;have hsn:Hid (S96++(aeP.take (k+1)).flatMap fV=S96++(aeP.take k).flatMap fV++ah (x.name.length:Int)++x.name++[32]++ah x.min'++ah x.afk++ah x.max'):=by show _=_;rw[dB hx.out];simp[fV,lN]
       have hf:=eX (f:=fV) hx.out;simp only[fV,lN,la,aV,ln] at hf;have hs0:(S96++(aeP.take k).flatMap fV).length<=S96.length+((aeP.take k).flatMap fV).length:=aW _ _;clear hx hb;go_wp2_with fail
       obtain⟨jg,hW2⟩:∃W2,xB.alloc (.cells #[.string ⟨x.name.toArray⟩,.int .i64 x.min',.int .i64 x.afk,.int .i64 x.max'] 84)=W2:=⟨_,rfl⟩
       rw[hW2];have Ug:Hid (Below W0.heap.size W0 jg):=by rw[<-hW2];exact hd0 (HX.out.alloc HX.out.size _)
       have b2:Bk jg xB.heap.size 84 #[.string ⟨x.name.toArray⟩,.int .i64 x.min',.int .i64 x.afk,.int .i64 x.max']:=by rw[<-hW2];exact Bk.new _ _ _
       clear hW2;have x0:∀xw:WIn (fun v=>Below jg.heap.size jg v),xw.w.cell? ⟨xB.heap.size,0,none⟩=some (.string ⟨x.name.toArray⟩):=ag (b2.cell 0);have x1:∀xw:WIn (fun v=>Below jg.heap.size jg v),xw.w.cell? ⟨xB.heap.size,1,none⟩=some (.int .i64 x.min'):=ag (b2.cell 1);have x2:∀xw:WIn (fun v=>Below jg.heap.size jg v),xw.w.cell? ⟨xB.heap.size,2,none⟩=some (.int .i64 x.afk):=ag (b2.cell 2);have x3:∀xw:WIn (fun v=>Below jg.heap.size jg v),xw.w.cell? ⟨xB.heap.size,3,none⟩=some (.int .i64 x.max'):=ag (b2.cell 3);clear b2;have FX:I64 (x.name.length:Int):=⟨by omega,by omega⟩
       have nI:=hd0 (aC (W:=jg) (fun w' _=>aA w' (x.name.length) FX));clear FX;have HA1:=hd0 (aC (W:=jg) (fun w' _=>aA w' (x.min') i1));have HA2:=hd0 (aC (W:=jg) (fun w' _=>aA w' (x.afk) i2));have EH:=hd0 (aC (W:=jg) (fun w' _=>aA w' (x.max') i3));generalize S96++(aeP.take k).flatMap fV=S101 at*
       generalize ah (x.name.length:Int)=D0 at*
       generalize ah x.min'=D1 at*
       generalize ah x.afk=D2 at*
       generalize ah x.max'=D3 at*
       have acP:∀w',(Op.stringOp .add ⟨S101.toArray⟩ ⟨D0.toArray⟩).run Tryd.prog w'= .ok (.string ⟨(S101++D0).toArray⟩) w':=bf S101 D0 (by omega);have acN:(S101++D0).length<=S101.length+D0.length:=aW _ _;generalize hS102:S101++D0=S102 at*
       have Zw:=hd0 hS102.symm;clear hS102;have acC:∀w',(Op.stringOp .add ⟨S102.toArray⟩ ⟨x.name.toArray⟩).run Tryd.prog w'= .ok (.string ⟨(S102++x.name).toArray⟩) w':=bf S102 x.name (by omega);have acV:(S102++x.name).length<=S102.length+x.name.length:=aW _ _;generalize hS103:S102++x.name=S103 at*
       have Zz:=hd0 hS103.symm;clear hS103;have acO:∀w',(Op.stringOp .add ⟨S103.toArray⟩ ⟨#[32]⟩).run Tryd.prog w'= .ok (.string ⟨(S103++[32]).toArray⟩) w':=bf S103 [32] (by simp only[aV,ln];omega);have acW:(S103++[32]).length<=S103.length+1:=aW _ _;generalize hS104:S103++[32]=S104 at*
       have ZK:=hd0 hS104.symm;clear hS104;have acQ:∀w',(Op.stringOp .add ⟨S104.toArray⟩ ⟨D1.toArray⟩).run Tryd.prog w'= .ok (.string ⟨(S104++D1).toArray⟩) w':=bf S104 D1 (by omega);have acX:(S104++D1).length<=S104.length+D1.length:=aW _ _;generalize hS105:S104++D1=S105 at*
       have ZR:=hd0 hS105.symm;clear hS105;have acu:∀w',(Op.stringOp .add ⟨S105.toArray⟩ ⟨D2.toArray⟩).run Tryd.prog w'= .ok (.string ⟨(S105++D2).toArray⟩) w':=bf S105 D2 (by omega);have acH:(S105++D2).length<=S105.length+D2.length:=aW _ _;generalize hS106:S105++D2=S106 at*
       have ZX:=hd0 hS106.symm;clear hS106;have acz:∀w',(Op.stringOp .add ⟨S106.toArray⟩ ⟨D3.toArray⟩).run Tryd.prog w'= .ok (.string ⟨(S106++D3).toArray⟩) w':=bf S106 D3 (by omega);have acY:(S106++D3).length<=S106.length+D3.length:=aW _ _;generalize hS107:S106++D3=S107 at*
       have Zx:=hd0 hS107.symm;clear hS107;clear hf hs0;refine bT (fun v=>Below jg.heap.size jg v) (by kernel_rfl) (by kernel_rfl) ((agE jg.heap.size jg).drew) ?_;have aQ:Nonempty (WIn (fun v=>Below jg.heap.size jg v)):=⟨⟨_,((agE jg.heap.size jg).drew)⟩⟩
       repeat(go_big_quiet_step (first|with_reducible exact nI.out _|with_reducible exact HA1.out _|with_reducible exact HA2.out _|with_reducible exact EH.out _))
       refine wpQuiet_nil ?_;intro _ hw';obtain⟨xq,hw''⟩:=hw';subst hw'';have lq:Hid (Below W0.heap.size W0 xq.w):=hd0 (Ug.out.trans (xq.ok.mono Ug.out.size));generalize xq.w=wz at*
       go_wp2_with fail
       go_roundw
       case rel=>exact⟨k+1,by omega,by simp,by rw[hsn.out,Zx.out,ZX.out,ZR.out,ZK.out,Zz.out,Zw.out],lq.out⟩
       case measure=>simp[intOf];omega
      obtain rfl:k=aeP.length:=by omega
      rw[agK];have acE:(S96++aeP.flatMap fV).length<=S96.length+(aeP.flatMap fV).length:=aW _ _;generalize hS108:S96++aeP.flatMap fV=S108 at*
      have aai:=hd0 hS108.symm;clear hS108;have c6:xB.cell? ⟨w.heap.size,6,none⟩=some (.slice A6 regs.length d6):=((aP HX.out).1 _ _ z0).trans (HK.out.cell 6);have acM:∀w',(Op.stringOp .add ⟨S108.toArray⟩ ⟨D6.toArray⟩).run Tryd.prog w'= .ok (.string ⟨(S108++D6).toArray⟩) w':=bf S108 D6 (by omega);have acS:(S108++D6).length<=S108.length+D6.length:=aW _ _;generalize hS109:S108++D6=S109 at*
      have ZQ:=hd0 hS109.symm;clear hS109;go_wp2_with fail
      refine(HD6.out _).mono ?_;rintro e aah ⟨rfl,hbd⟩;have WH:Hid (Below W0.heap.size W0 aah):=hd0 (HX.out.trans (hbd.mono HX.out.size));clear hbd c6 HX hb;go_wp2_with fail
      go_loopw [3,10] (fun s i wr=>∃k:Nat,k<=regs.length/\i= .int .i64 k/\s= .string ⟨(S109++(regs.take k).flatMap jC).toArray⟩/\Below W0.heap.size W0 wr) (fun _ i _=>regs.length - (intOf i).toNat)
      case atStart=>exact⟨0,nz _,rfl,by simp,WH.out⟩
      case round=>
       obtain⟨pG,rfl⟩:∃x,x=wr:=⟨_,rfl⟩
       obtain⟨k,hk,rfl,rfl,hb⟩:=hrel;have HX:=hd0 hb;have c6:pG.cell? ⟨w.heap.size,6,none⟩=some (.slice A6 regs.length d6):=((aP HX.out).1 _ _ z0).trans (HK.out.cell 6);by_cases hlt:k<regs.length
       ·
        obtain⟨b,o,x,B0,e0,rfl,-,hx,q0,h0⟩:=(H6.out.lw aeY.ok hb).region hlt;have hsn:Hid (S109++(regs.take (k+1)).flatMap jC=S109++(regs.take k).flatMap jC++ah (x.ae0.length:Int)++x.ae0.flatMap iC):=by show _=_;rw[dB hx.out];simp[jC,xY]
        have hf:=eX (f:=jC) hx.out;simp only[jC,xY,la] at hf;have hs0:(S109++(regs.take k).flatMap jC).length<=S109.length+((regs.take k).flatMap jC).length:=aW _ _;have n9:I64 (x.ae0.length:Int):=jy iC EC x.ae0 (by omega);have ln9:x.ae0.length<=100000000000000:=nt (dM iC EC x.ae0) (by omega);have K0:=hd0 h0;have HA:=hd0 (fun w'=>aA w' _ n9);clear n9;generalize S109++(regs.take k).flatMap jC=S113 at*
        generalize ah (x.ae0.length:Int)=E0 at*
        have acT:∀w',(Op.stringOp .add ⟨S113.toArray⟩ ⟨E0.toArray⟩).run Tryd.prog w'= .ok (.string ⟨(S113++E0).toArray⟩) w':=bf S113 E0 (by omega);have acx:(S113++E0).length<=S113.length+E0.length:=aW _ _;generalize hS114:S113++E0=S114 at*
        have aae:=hd0 hS114.symm;clear hS114;have zb:=World.block_lt_of_cell? _ _ q0;clear hx hb;go_wp2_with fail
        refine(HA.out _).mono ?_;rintro e wb ⟨rfl,hbb⟩;have Xb:=hd0 hbb;clear hbb HA;go_wp2_with fail
        go_loopw [3,11] (fun s i wr=>∃j:Nat,j<=x.ae0.length/\i= .int .i64 j/\s= .string ⟨(S114++(x.ae0.take j).flatMap iC).toArray⟩/\Below pG.heap.size pG wr) (fun _ i _=>x.ae0.length - (intOf i).toNat)
        case atStart=>exact⟨0,nz _,rfl,by simp,Xb.out⟩
        case round=>
         obtain⟨wi,rfl⟩:∃x,x=wr:=⟨_,rfl⟩
         obtain⟨j,hj,rfl,rfl,hb⟩:=hrel;have zH:Hid (Below pG.heap.size pG wi):=hd0 hb;have HXw:Hid (Below W0.heap.size W0 wi):=hd0 (HX.out.trans (hb.mono HX.out.size));have c6i:wi.cell? ⟨w.heap.size,6,none⟩=some (.slice (some ⟨b,o,none⟩) regs.length d6):=((aP HXw.out).1 _ _ z0).trans (HK.out.cell 6);have q0i:wi.cell? ⟨b,o+k,none⟩=some (.slice B0 x.ae0.length e0):=((aP zH.out).1 _ _ zb).trans q0;by_cases hltj:j<x.ae0.length
         ·
          obtain⟨b2,o2,y,rfl,-,hy,u0,u1,u2,j0,j1,j2⟩:=(K0.out.lw afu.ok hb).agk hltj;have QU:Hid (S114++(x.ae0.take (j+1)).flatMap iC=S114++(x.ae0.take j).flatMap iC++ah y.start++ah y.peak++ah y.stop):=by show _=_;rw[dB hy.out];simp[iC]
          have hf2:=eX (f:=iC) hy.out;simp only[iC,la] at hf2;have hs2:(S114++(x.ae0.take j).flatMap iC).length<=S114.length+((x.ae0.take j).flatMap iC).length:=aW _ _;clear hy;go_wp2_with fail
          obtain⟨W2,hW2⟩:∃W2,wi.alloc (.cells #[.int .i64 y.start,.int .i64 y.peak,.int .i64 y.stop] 86)=W2:=⟨_,rfl⟩
          rw[hW2];have HW2:Hid (Below pG.heap.size pG W2):=by rw[<-hW2];exact hd0 (zH.out.alloc zH.out.size _)
          have b3:Bk W2 wi.heap.size 86 #[.int .i64 y.start,.int .i64 y.peak,.int .i64 y.stop]:=by rw[<-hW2];exact Bk.new _ _ _
          clear hW2;have x0:∀xw:WIn (fun v=>Below W2.heap.size W2 v),xw.w.cell? ⟨wi.heap.size,0,none⟩=some (.int .i64 y.start):=ag (b3.cell 0);have x1:∀xw:WIn (fun v=>Below W2.heap.size W2 v),xw.w.cell? ⟨wi.heap.size,1,none⟩=some (.int .i64 y.peak):=ag (b3.cell 1);have x2:∀xw:WIn (fun v=>Below W2.heap.size W2 v),xw.w.cell? ⟨wi.heap.size,2,none⟩=some (.int .i64 y.stop):=ag (b3.cell 2);have HB0:=hd0 (aC (W:=W2) (fun w' _=>aA w' (y.start) j0));have HB1:=hd0 (aC (W:=W2) (fun w' _=>aA w' (y.peak) j1));have HB2:=hd0 (aC (W:=W2) (fun w' _=>aA w' (y.stop) j2));generalize S114++(x.ae0.take j).flatMap iC=S115 at*
          generalize ah y.start=G0 at*
          generalize ah y.peak=G1 at*
          generalize ah y.stop=G2 at*
          have acy:∀w',(Op.stringOp .add ⟨S115.toArray⟩ ⟨G0.toArray⟩).run Tryd.prog w'= .ok (.string ⟨(S115++G0).toArray⟩) w':=bf S115 G0 (by omega);have acL:(S115++G0).length<=S115.length+G0.length:=aW _ _;generalize hS116:S115++G0=S116 at*
          have aab:=hd0 hS116.symm;clear hS116;have acw:∀w',(Op.stringOp .add ⟨S116.toArray⟩ ⟨G1.toArray⟩).run Tryd.prog w'= .ok (.string ⟨(S116++G1).toArray⟩) w':=bf S116 G1 (by omega);have acR:(S116++G1).length<=S116.length+G1.length:=aW _ _;generalize hS117:S116++G1=S117 at*
          have ZU:=hd0 hS117.symm;clear hS117;have acU:∀w',(Op.stringOp .add ⟨S117.toArray⟩ ⟨G2.toArray⟩).run Tryd.prog w'= .ok (.string ⟨(S117++G2).toArray⟩) w':=bf S117 G2 (by omega);have acG:(S117++G2).length<=S117.length+G2.length:=aW _ _;generalize hS118:S117++G2=S118 at*
          have aak:=hd0 hS118.symm;clear hS118;clear b3 hf2 hs2 hb u0 u1 u2 j0 j1 j2;refine bT (fun v=>Below W2.heap.size W2 v) (by kernel_rfl) (by kernel_rfl) ((agE W2.heap.size W2).drew) ?_;have aQ:Nonempty (WIn (fun v=>Below W2.heap.size W2 v)):=⟨⟨_,((agE W2.heap.size W2).drew)⟩⟩
          repeat(go_big_quiet_step (first|with_reducible exact HB0.out _|with_reducible exact HB1.out _|with_reducible exact HB2.out _))
          refine wpQuiet_nil ?_;intro _ hw';obtain⟨xq,hw''⟩:=hw';subst hw'';have lq:Hid (Below pG.heap.size pG xq.w):=hd0 (HW2.out.trans (xq.ok.mono HW2.out.size));generalize xq.w=wz at*
          go_wp2_with fail
          go_roundw
          case rel=>exact⟨j+1,by omega,by simp,by rw[QU.out,aak.out,ZU.out,aab.out],lq.out⟩
          case measure=>simp[intOf];omega
         obtain rfl:j=x.ae0.length:=by omega
         rw[agK];generalize hS119:S114++x.ae0.flatMap iC=S119 at*
         have aal:=hd0 hS119.symm;clear hS119 hb hf hs0;go_wp2_with fail
         go_roundw
         case rel=>exact⟨k+1,by omega,by simp,by rw[hsn.out,aal.out,aae.out],HXw.out⟩
         case measure=>simp[intOf];omega
       obtain rfl:k=regs.length:=by omega
       rw[agK];have acs:(S109++regs.flatMap jC).length<=S109.length+(regs.flatMap jC).length:=aW _ _;generalize hS120:S109++regs.flatMap jC=S120 at*
       have Zu:=hd0 hS120.symm;clear hS120;have c7:pG.cell? ⟨w.heap.size,7,none⟩=some (.slice A7 funcs.length d7):=((aP HX.out).1 _ _ z0).trans (HK.out.cell 7);have acF:∀w',(Op.stringOp .add ⟨S120.toArray⟩ ⟨D7.toArray⟩).run Tryd.prog w'= .ok (.string ⟨(S120++D7).toArray⟩) w':=bf S120 D7 (by omega);have acA:(S120++D7).length<=S120.length+D7.length:=aW _ _;generalize hS121:S120++D7=S121 at*
       have ZF:=hd0 hS121.symm;clear hS121;go_wp2_with fail
       refine(HD7.out _).mono ?_;rintro e Zy ⟨rfl,hbd⟩;have YK:Hid (Below W0.heap.size W0 Zy):=hd0 (HX.out.trans (hbd.mono HX.out.size));clear hbd c7 HX hb;go_wp2_with fail
       go_loopw [3,13] (fun s i wr=>∃k:Nat,k<=funcs.length/\i= .int .i64 k/\s= .string ⟨(S121++(funcs.take k).flatMap dO).toArray⟩/\Below W0.heap.size W0 wr) (fun _ i _=>funcs.length - (intOf i).toNat)
       case atStart=>exact⟨0,nz _,rfl,by simp,YK.out⟩
       case round=>
        obtain⟨Ll,rfl⟩:∃x,x=wr:=⟨_,rfl⟩
        obtain⟨k,hk,rfl,rfl,hb⟩:=hrel;have HX:=hd0 hb;have c7:Ll.cell? ⟨w.heap.size,7,none⟩=some (.slice A7 funcs.length d7):=((aP HX.out).1 _ _ z0).trans (HK.out.cell 7);by_cases hlt:k<funcs.length
        ·
         obtain⟨b,o,x,B1,e1,rfl,-,hx,q0,h0⟩:=(H7.out.lw ae1.ok hb).code hlt;have hsn:Hid (S121++(funcs.take (k+1)).flatMap dO=S121++(funcs.take k).flatMap dO++dO x):=by show _=_;rw[dB hx.out];simp
         have hf:=eX (f:=dO) hx.out;have hs0:(S121++(funcs.take k).flatMap dO).length<=S121.length+((funcs.take k).flatMap dO).length:=aW _ _;have HA:=hd0 (GK Ll B1 e1 x h0 (by omega));generalize S121++(funcs.take k).flatMap dO=S125 at*
         generalize dO x=D9 at*
         have acJ:∀w',(Op.stringOp .add ⟨S125.toArray⟩ ⟨D9.toArray⟩).run Tryd.prog w'= .ok (.string ⟨(S125++D9).toArray⟩) w':=bf S125 D9 (by omega);have acB:(S125++D9).length<=S125.length+D9.length:=aW _ _;generalize hS126:S125++D9=S126 at*
         have ZI:=hd0 hS126.symm;clear hS126;clear hx hf hs0 hb;go_wp2_with fail
         refine HA.out.mono ?_;rintro e wz ⟨rfl,hbz⟩;have lq:Hid (Below W0.heap.size W0 wz):=hd0 (HX.out.trans (hbz.mono HX.out.size));clear hbz HA;go_wp2_with fail
         go_roundw
         case rel=>exact⟨k+1,by omega,by simp,by rw[hsn.out,ZI.out],lq.out⟩
         case measure=>simp[intOf];omega
        obtain rfl:k=funcs.length:=by omega
        rw[agK];have acD:(S121++funcs.flatMap dO).length<=S121.length+(funcs.flatMap dO).length:=aW _ _;generalize hS127:S121++funcs.flatMap dO=S127 at*
        have aac:=hd0 hS127.symm;clear hS127;have c8:Ll.cell? ⟨w.heap.size,8,none⟩=some (.slice A8 cvt.length d8):=((aP HX.out).1 _ _ z0).trans (HK.out.cell 8);have acI:∀w',(Op.stringOp .add ⟨S127.toArray⟩ ⟨E.toArray⟩).run Tryd.prog w'= .ok (.string ⟨(S127++E).toArray⟩) w':=bf S127 E (by omega);have acv:(S127++E).length<=S127.length+E.length:=aW _ _;generalize hS128:S127++E=S128 at*
        have Zr:=hd0 hS128.symm;clear hS128;go_wp2_with fail
        refine(HR.out _ _ _ (H8.out.lw aeQ.ok HX.out)).mono ?_;rintro e wy ⟨rfl,hby⟩;have WX:Hid (Below W0.heap.size W0 wy):=hd0 (HX.out.trans (hby.mono HX.out.size));clear hby HR;go_wp2_with fail
        go_ret
        exact⟨by rw[Zr.out,aac.out,ZF.out,Zu.out,ZQ.out,aai.out,abj.out,acg.out,aay.out,ab6.out,abJ.out,aar.out,ab1.out,aaV.out,aaC.out];rfl,HW.out.trans (WX.out.mono HW.out.size)⟩
theorem JH (w:World)(f g:Fnt)(fc gc:List Value)(hf:afe w (Lw w) fc f)(hg:afe w (Lw w) gc g)(h1:(eF f).length<=100000000000000)(h2:(eF g).length<=100000000000000):
  Calls Tryd.prog 9 #[.agg fc.toArray,.agg gc.toArray] w fun e w'=>e= .returned (.bool (eF f==eF g))/\Below w.heap.size w w':=by
 obtain⟨A1,c1,A2,c2,A3,c3,A4,c4,A5,c5,A6,c6,A7,c7,A8,c8,rfl,i0,s1,s2,s3,s4,s5,s6,s7,s8⟩:=hf;obtain⟨B1,d1,B2,d2,B3,d3,B4,d4,B5,d5,B6,d6,B7,d7,B8,d8,rfl,j0,t1,t2,t3,t4,t5,t6,t7,t8⟩:=hg;have HF:=hd0 (fun w' (h:Below w.heap.size w w')=>Ia w' f A1 A2 A3 A4 A5 A6 A7 A8 c1 c2 c3 c4 c5 c6 c7 c8 i0 (s1.lw aeU.ok h) (s2.lw afb.ok h) (s3.lw aeV.ok h) (s4.lw aeW.ok h) (s5.lw ae2.ok h) (s6.lw aeY.ok h) (s7.lw ae1.ok h) (s8.lw aeQ.ok h) h1);have HG:=hd0 (fun w' (h:Below w.heap.size w w')=>Ia w' g B1 B2 B3 B4 B5 B6 B7 B8 d1 d2 d3 d4 d5 d6 d7 d8 j0 (t1.lw aeU.ok h) (t2.lw afb.ok h) (t3.lw aeV.ok h) (t4.lw aeW.ok h) (t5.lw ae2.ok h) (t6.lw aeY.ok h) (t7.lw ae1.ok h) (t8.lw aeQ.ok h) h2);clear s1 s2 s3 s4 s5 s6 s7 s8 t1 t2 t3 t4 t5 t6 t7 t8 i0 j0 h1 h2;generalize eF f=PF at*
 generalize eF g=PG at*
 go_enter Tryd.func9,Tryd.ntmps9
 go_wp2_with fail
 obtain⟨W1,hW1⟩:∃W1,w.alloc (.cells #[.int .i64 f.unit,.slice A1 f.aeN.length c1,.slice A2 f.chars.length c2,.slice A3 f.aeO.length c3,.slice A4 f.features.length c4,.slice A5 f.aeP.length c5,.slice A6 f.regions.length c6,.slice A7 f.funcs.length c7,.slice A8 f.cvt.length c8] 32)=W1:=⟨_,rfl⟩
 obtain⟨W2,hW2⟩:∃W2,W1.alloc (.cells #[.int .i64 g.unit,.slice B1 g.aeN.length d1,.slice B2 g.chars.length d2,.slice B3 g.aeO.length d3,.slice B4 g.features.length d4,.slice B5 g.aeP.length d5,.slice B6 g.regions.length d6,.slice B7 g.funcs.length d7,.slice B8 g.cvt.length d8] 32)=W2:=⟨_,rfl⟩
 have hz1:W1.heap.size=w.heap.size+1:=by rw[<-hW1];simp
 rw[hW1,hW2];have k1:Bk W1 w.heap.size 32 #[.int .i64 f.unit,.slice A1 f.aeN.length c1,.slice A2 f.chars.length c2,.slice A3 f.aeO.length c3,.slice A4 f.features.length c4,.slice A5 f.aeP.length c5,.slice A6 f.regions.length c6,.slice A7 f.funcs.length c7,.slice A8 f.cvt.length c8]:=by rw[<-hW1];exact Bk.new _ _ _
 have k2:Bk W2 W1.heap.size 32 #[.int .i64 g.unit,.slice B1 g.aeN.length d1,.slice B2 g.chars.length d2,.slice B3 g.aeO.length d3,.slice B4 g.features.length d4,.slice B5 g.aeP.length d5,.slice B6 g.regions.length d6,.slice B7 g.funcs.length d7,.slice B8 g.cvt.length d8]:=by rw[<-hW2];exact Bk.new _ _ _
 have k1':Bk W2 w.heap.size 32 #[.int .i64 f.unit,.slice A1 f.aeN.length c1,.slice A2 f.chars.length c2,.slice A3 f.aeO.length c3,.slice A4 f.features.length c4,.slice A5 f.aeP.length c5,.slice A6 f.regions.length c6,.slice A7 f.funcs.length c7,.slice A8 f.cvt.length c8]:=by rw[<-hW2];exact k1.alloc _
 have HB:Hid (Below w.heap.size w W2):=by rw[<-hW2,<-hW1];exact hd0 (((agE _ _).alloc (ai _) _).alloc (by simp) _)
 rw[hz1] at k2;clear hW1 hW2 k1 hz1;have x0:∀xw:WIn (fun v=>Below W2.heap.size W2 v),xw.w.cell? ⟨w.heap.size,0,none⟩=some (.int .i64 f.unit):=ag (k1'.cell 0);have x1:∀xw:WIn (fun v=>Below W2.heap.size W2 v),xw.w.cell? ⟨w.heap.size,1,none⟩=some (.slice A1 f.aeN.length c1):=ag (k1'.cell 1);have x2:∀xw:WIn (fun v=>Below W2.heap.size W2 v),xw.w.cell? ⟨w.heap.size,2,none⟩=some (.slice A2 f.chars.length c2):=ag (k1'.cell 2);have x3:∀xw:WIn (fun v=>Below W2.heap.size W2 v),xw.w.cell? ⟨w.heap.size,3,none⟩=some (.slice A3 f.aeO.length c3):=ag (k1'.cell 3);have x4:∀xw:WIn (fun v=>Below W2.heap.size W2 v),xw.w.cell? ⟨w.heap.size,4,none⟩=some (.slice A4 f.features.length c4):=ag (k1'.cell 4);have x5:∀xw:WIn (fun v=>Below W2.heap.size W2 v),xw.w.cell? ⟨w.heap.size,5,none⟩=some (.slice A5 f.aeP.length c5):=ag (k1'.cell 5);have x6:∀xw:WIn (fun v=>Below W2.heap.size W2 v),xw.w.cell? ⟨w.heap.size,6,none⟩=some (.slice A6 f.regions.length c6):=ag (k1'.cell 6);have x7:∀xw:WIn (fun v=>Below W2.heap.size W2 v),xw.w.cell? ⟨w.heap.size,7,none⟩=some (.slice A7 f.funcs.length c7):=ag (k1'.cell 7);have x8:∀xw:WIn (fun v=>Below W2.heap.size W2 v),xw.w.cell? ⟨w.heap.size,8,none⟩=some (.slice A8 f.cvt.length c8):=ag (k1'.cell 8);have y0:∀xw:WIn (fun v=>Below W2.heap.size W2 v),xw.w.cell? ⟨(w.heap.size+1),0,none⟩=some (.int .i64 g.unit):=ag (k2.cell 0);have y1:∀xw:WIn (fun v=>Below W2.heap.size W2 v),xw.w.cell? ⟨(w.heap.size+1),1,none⟩=some (.slice B1 g.aeN.length d1):=ag (k2.cell 1);have y2:∀xw:WIn (fun v=>Below W2.heap.size W2 v),xw.w.cell? ⟨(w.heap.size+1),2,none⟩=some (.slice B2 g.chars.length d2):=ag (k2.cell 2);have y3:∀xw:WIn (fun v=>Below W2.heap.size W2 v),xw.w.cell? ⟨(w.heap.size+1),3,none⟩=some (.slice B3 g.aeO.length d3):=ag (k2.cell 3);have y4:∀xw:WIn (fun v=>Below W2.heap.size W2 v),xw.w.cell? ⟨(w.heap.size+1),4,none⟩=some (.slice B4 g.features.length d4):=ag (k2.cell 4);have y5:∀xw:WIn (fun v=>Below W2.heap.size W2 v),xw.w.cell? ⟨(w.heap.size+1),5,none⟩=some (.slice B5 g.aeP.length d5):=ag (k2.cell 5);have y6:∀xw:WIn (fun v=>Below W2.heap.size W2 v),xw.w.cell? ⟨(w.heap.size+1),6,none⟩=some (.slice B6 g.regions.length d6):=ag (k2.cell 6);have y7:∀xw:WIn (fun v=>Below W2.heap.size W2 v),xw.w.cell? ⟨(w.heap.size+1),7,none⟩=some (.slice B7 g.funcs.length d7):=ag (k2.cell 7);have y8:∀xw:WIn (fun v=>Below W2.heap.size W2 v),xw.w.cell? ⟨(w.heap.size+1),8,none⟩=some (.slice B8 g.cvt.length d8):=ag (k2.cell 8);have GR:=hd0 (aC (W:=W2) (fun w' h=>HF.out w' (HB.out.trans (h.mono HB.out.size))));have Gt:=hd0 (aC (W:=W2) (fun w' h=>HG.out w' (HB.out.trans (h.mono HB.out.size))));clear HF HG k1' k2;refine bT (fun v=>Below W2.heap.size W2 v) (by kernel_rfl) (by kernel_rfl) ((agE W2.heap.size W2).drew) ?_;have aQ:Nonempty (WIn (fun v=>Below W2.heap.size W2 v)):=⟨⟨_,((agE W2.heap.size W2).drew)⟩⟩
 repeat(go_big_quiet_step (first|with_reducible exact GR.out _|with_reducible exact Gt.out _))
 refine wpQuiet_nil ?_;intro _ hw';obtain⟨xq,hw''⟩:=hw';subst hw'';have Hq:=HB.out.trans (xq.ok.mono HB.out.size);go_wp2_with fail
 go_ret
 exact⟨rfl,Hq⟩
end Go.Proofs.YtkijckccfookeaaDoor
