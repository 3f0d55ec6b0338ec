/- Lemmas. -/
import Derived.Test.YtkijckccfookeaaGreatDoorPrG
import Derived.Test.YtkijckccfookeaaGreatDoorU19
set_option linter.unusedVariables false
set_option linter.unusedSimpArgs false
set_option maxRecDepth 100000
set_option maxHeartbeats 32000000
namespace Go.Proofs.YtkijckccfookeaaGreatDoor
open Go.RowKit
theorem OC (x:Chr):1<=(lQ x).length:=by have:=fA x.rune;unfold lQ;simp only[la];omega
theorem KE (x:Lookup):1<=(iq x).length:=by have:=fA x.kind;unfold iq;simp only[la];omega
theorem KI (x:alo):1<=(jo x).length:=by have:=fA x.name.length;unfold jo rY;simp only[la];omega
theorem Kz (x:alG):1<=(jm x).length:=by have:=fA x.min';unfold jm;simp only[la];omega
theorem JI (x:alv):1<=(jY x).length:=by have:=fA x.start;unfold jY;simp only[la];omega
theorem NQ (x:Region):1<=(lS x).length:=by have:=fA x.ak1.length;unfold lS Bv;simp only[la];omega
theorem Ih (x:akN):1<=(eH x).length:=by have:=fA x.advance;unfold eH;simp only[la];omega
theorem Oj (w:World)(f:Fnt)(A1 A2 A3 A4 A5 A6 A7 A8:Option Addr)(d1 d2 d3 d4 d5 d6 d7 d8:Nat)(i0:I64 f.unit)(h1:Sl akQ 9 w (Lw w) A1 f.akJ)(h2:Sl alm 2 w (Lw w) A2 f.chars)(h3:Sl akS 3 w (Lw w) A3 f.akK)(h4:Sl akR 2 w (Lw w) A4 f.features)(h5:Sl ale 4 w (Lw w) A5 f.akP)(h6:Sl akU 1 w (Lw w) A6 f.regions)(h7:Sl ak6 1 w (Lw w) A7 f.funcs)(h8:Sl akL 1 w (Lw w) A8 f.cvt)(hlen:(mZ f).length<=100000000000000):
  Calls Tryz.prog 50 #[.agg #[.int .i64 f.unit,.slice A1 f.akJ.length d1,.slice A2 f.chars.length d2,.slice A3 f.akK.length d3,.slice A4 f.features.length d4,.slice A5 f.akP.length d5,.slice A6 f.regions.length d6,.slice A7 f.funcs.length d7,.slice A8 f.cvt.length d8]] w fun e w'=>e= .returned (.string ⟨(mZ f).toArray⟩)/\Below w.heap.size w w':=by
 obtain⟨unit,akJ,chars,akK,ak0,akP,regs,funcs,cvt⟩:=f;have hgl:mZ ⟨unit,akJ,chars,akK,ak0,akP,regs,funcs,cvt⟩=ai unit++ai (akJ.length:Int)++akJ.flatMap eH++ai (chars.length:Int)++chars.flatMap lQ++ai (akK.length:Int)++akK.flatMap iq++ai (ak0.length:Int)++ak0.flatMap jo++ai (akP.length:Int)++akP.flatMap jm++ai (regs.length:Int)++regs.flatMap lS++ai (funcs.length:Int)++funcs.flatMap fG++rowB cvt:=by simp[mZ,JC,U7,Oa,MI,Tm,TN,Nl]
 rw[hgl] at hlen ⊢;clear hgl;simp only[la] at hlen;simp only at i0 h1 h2 h3 h4 h5 h6 h7 h8 ⊢;have n1:I64 (akJ.length:Int):=lg eH Ih akJ (by omega);have ln1:akJ.length<=100000000000000:=nt (fB eH Ih akJ) (by omega);have n2:I64 (chars.length:Int):=lg lQ OC chars (by omega);have ln2:chars.length<=100000000000000:=nt (fB lQ OC chars) (by omega);have n3:I64 (akK.length:Int):=lg iq KE akK (by omega);have ln3:akK.length<=100000000000000:=nt (fB iq KE akK) (by omega);have n4:I64 (ak0.length:Int):=lg jo KI ak0 (by omega);have ln4:ak0.length<=100000000000000:=nt (fB jo KI ak0) (by omega);have n5:I64 (akP.length:Int):=lg jm Kz akP (by omega);have ln5:akP.length<=100000000000000:=nt (fB jm Kz akP) (by omega);have n6:I64 (regs.length:Int):=lg lS NQ regs (by omega);have ln6:regs.length<=100000000000000:=nt (fB lS NQ regs) (by omega);have n7:I64 (funcs.length:Int):=lg fG JS funcs (by omega);have ln7:funcs.length<=100000000000000:=nt (fB fG JS funcs) (by omega);have H1:=hd0 h1;have H2:=hd0 h2;have H3:=hd0 h3;have H4:=hd0 h4;have H5:=hd0 h5;have H6:=hd0 h6;have H7:=hd0 h7;have H8:=hd0 h8;have HD0:=hd0 (fun w'=>aF w' _ i0);have HD1:=hd0 (fun w'=>aF w' _ n1);have HD2:=hd0 (fun w'=>aF w' _ n2);have HD3:=hd0 (fun w'=>aF w' _ n3);have HD4:=hd0 (fun w'=>aF w' _ n4);have HD5:=hd0 (fun w'=>aF w' _ n5);have HD6:=hd0 (fun w'=>aF w' _ n6);have HD7:=hd0 (fun w'=>aF w' _ n7);have HE:=hd0 (show(rowB cvt).length<=100000000000000 by omega);have HR:=hd0 (fun w' c A (h:Sl akL 1 w' (Lw w') A cvt)=>yO w' A c cvt h HE.out);clear i0 HE h1 h2 h3 h4 h5 h6 h7 h8 n1 n2 n3 n4 n5 n6 n7;generalize ai unit=D0 at*
 generalize ai (akJ.length:Int)=D1 at*
 generalize ai (chars.length:Int)=D2 at*
 generalize ai (akK.length:Int)=D3 at*
 generalize ai (ak0.length:Int)=D4 at*
 generalize ai (akP.length:Int)=D5 at*
 generalize ai (regs.length:Int)=D6 at*
 generalize ai (funcs.length:Int)=D7 at*
 generalize rowB cvt=E at*
 go_enter Tryz.func50,Tryz.ntmps50
 go_wp2_with fail
 obtain⟨W0,hW0⟩:∃W0,w.alloc (.cells #[.int .i64 unit,.slice A1 akJ.length d1,.slice A2 chars.length d2,.slice A3 akK.length d3,.slice A4 ak0.length d4,.slice A5 akP.length d5,.slice A6 regs.length d6,.slice A7 funcs.length d7,.slice A8 cvt.length d8] 32)=W0:=⟨_,rfl⟩
 rw[hW0];have HW:Hid (Below w.heap.size w W0):=by rw[<-hW0];exact hd0 ((ant _ _).alloc (af _) _)
 have HK:Hid (Bk W0 w.heap.size 32 #[.int .i64 unit,.slice A1 akJ.length d1,.slice A2 chars.length d2,.slice A3 akK.length d3,.slice A4 ak0.length d4,.slice A5 akP.length d5,.slice A6 regs.length d6,.slice A7 funcs.length d7,.slice A8 cvt.length d8]):=by rw[<-hW0];exact hd0 (Bk.new _ _ _)
 have z0:w.heap.size<W0.heap.size:=HK.out.lt;clear hW0;replace H1:=hd0 (H1.out.lw akQ.ok HW.out);replace H2:=hd0 (H2.out.lw alm.ok HW.out);replace H3:=hd0 (H3.out.lw akS.ok HW.out);replace H4:=hd0 (H4.out.lw akR.ok HW.out);replace H5:=hd0 (H5.out.lw ale.ok HW.out);replace H6:=hd0 (H6.out.lw akU.ok HW.out);replace H7:=hd0 (H7.out.lw ak6.ok HW.out);replace H8:=hd0 (H8.out.lw akL.ok HW.out);have x0:∀xw:WIn (fun v=>Below W0.heap.size W0 v),xw.w.cell? ⟨w.heap.size,0,none⟩=some (.int .i64 unit):=aC (HK.out.cell 0);have x1:∀xw:WIn (fun v=>Below W0.heap.size W0 v),xw.w.cell? ⟨w.heap.size,1,none⟩=some (.slice A1 akJ.length d1):=aC (HK.out.cell 1);have agw:∀w',(Op.stringOp .add ⟨D0.toArray⟩ ⟨D1.toArray⟩).run Tryz.prog w'= .ok (.string ⟨(D0++D1).toArray⟩) w':=bF D0 D1 (by omega);have aj8:(D0++D1).length<=D0.length+D1.length:=bu _ _;generalize hS65:D0++D1=S65 at*
 have ah3:=hd0 hS65.symm;clear hS65;have Di:=hd0 (aP (W:=W0) (fun w' _=>HD0.out w'));have Dp:=hd0 (aP (W:=W0) (fun w' _=>HD1.out w'));refine bW (fun v=>Below W0.heap.size W0 v) (by kernel_rfl) (by kernel_rfl) ((ant W0.heap.size W0).drew) ?_;have bT:Nonempty (WIn (fun v=>Below W0.heap.size W0 v)):=⟨⟨_,((ant W0.heap.size W0).drew)⟩⟩
 repeat(go_big_quiet_step (first|with_reducible exact Di.out _|with_reducible exact Dp.out _))
 refine wpQuiet_nil ?_;intro _ hw';obtain⟨xq,hw''⟩:=hw';subst hw'';have WU:Hid (Below W0.heap.size W0 xq.w):=hd0 xq.ok;generalize xq.w=wa at*
 clear x0 x1 Di Dp bT agw;go_wp2_with fail
 go_loopw [3,4] (fun s i wr=>∃k:Nat,k<=akJ.length/\i= .int .i64 k/\s= .string ⟨(S65++(akJ.take k).flatMap eH).toArray⟩/\Below W0.heap.size W0 wr) (fun _ i _=>akJ.length - (intOf i).toNat)
 case atStart=>exact⟨0,nz _,rfl,by simp,WU.out⟩
 case round=>
  obtain⟨aaF,rfl⟩:∃x,x=wr:=⟨_,rfl⟩
  obtain⟨k,hk,rfl,rfl,hb⟩:=hrel;have HX:=hd0 hb;have c1:aaF.cell? ⟨w.heap.size,1,none⟩=some (.slice A1 akJ.length d1):=((aj HX.out).1 _ _ z0).trans (HK.out.cell 1);by_cases hlt:k<akJ.length
  ·
   obtain⟨b,o,x,B3,e3,B4,e4,B5,e5,B6,e6,B7,e7,B8,e8,rfl,-,hx,q0,q1,q2,q3,q4,q5,q6,q7,q8,i1,h3,h4,h5,h6,h7,h8⟩:=(H1.out.lw akQ.ok hb).akY hlt;have hsn:Hid (S65++(akJ.take (k+1)).flatMap eH=S65++(akJ.take k).flatMap eH++eH x):=by show _=_;rw[dU hx.out];simp
   have hf:=gZ (f:=eH) hx.out;have hs0:(S65++(akJ.take k).flatMap eH).length<=S65.length+((akJ.take k).flatMap eH).length:=bu _ _;have HA:=hd0 (Xl aaF x B3 B4 B5 B6 B7 B8 e3 e4 e5 e6 e7 e8 i1 h3 h4 h5 h6 h7 h8 (by omega));generalize S65++(akJ.take k).flatMap eH=S68 at*
   generalize eH x=D9 at*
   have ajM:∀w',(Op.stringOp .add ⟨S68.toArray⟩ ⟨D9.toArray⟩).run Tryz.prog w'= .ok (.string ⟨(S68++D9).toArray⟩) w':=bF S68 D9 (by omega);have ajE:(S68++D9).length<=S68.length+D9.length:=bu _ _;generalize hS69:S68++D9=S69 at*
   have ahG:=hd0 hS69.symm;clear hS69;clear hx hf hs0 hb;go_wp2_with fail
   refine HA.out.mono ?_;rintro e wz ⟨rfl,hbz⟩;have oI:Hid (Below W0.heap.size W0 wz):=hd0 (HX.out.trans (hbz.mono HX.out.size));clear hbz HA;go_wp2_with fail
   go_roundw
   case rel=>exact⟨k+1,by omega,by simp,by rw[hsn.out,ahG.out],oI.out⟩
   case measure=>simp[intOf];omega
  obtain rfl:k=akJ.length:=by omega
  rw[anA];have aj0:(S65++akJ.flatMap eH).length<=S65.length+(akJ.flatMap eH).length:=bu _ _;generalize hS70:S65++akJ.flatMap eH=S70 at*
  have ahQ:=hd0 hS70.symm;clear hS70;have c2:aaF.cell? ⟨w.heap.size,2,none⟩=some (.slice A2 chars.length d2):=((aj HX.out).1 _ _ z0).trans (HK.out.cell 2);have ajy:∀w',(Op.stringOp .add ⟨S70.toArray⟩ ⟨D2.toArray⟩).run Tryz.prog w'= .ok (.string ⟨(S70++D2).toArray⟩) w':=bF S70 D2 (by omega);have aj6:(S70++D2).length<=S70.length+D2.length:=bu _ _;generalize hS71:S70++D2=S71 at*
  have ahh:=hd0 hS71.symm;clear hS71;go_wp2_with fail
  refine(HD2.out _).mono ?_;rintro e ag9 ⟨rfl,hbd⟩;have afJ:Hid (Below W0.heap.size W0 ag9):=hd0 (HX.out.trans (hbd.mono HX.out.size));clear hbd c2 HX hb;go_wp2_with fail
  go_loopw [3,5] (fun s i wr=>∃k:Nat,k<=chars.length/\i= .int .i64 k/\s= .string ⟨(S71++(chars.take k).flatMap lQ).toArray⟩/\Below W0.heap.size W0 wr) (fun _ i _=>chars.length - (intOf i).toNat)
  case atStart=>exact⟨0,nz _,rfl,by simp,afJ.out⟩
  case round=>
   obtain⟨ng,rfl⟩:∃x,x=wr:=⟨_,rfl⟩
   obtain⟨k,hk,rfl,rfl,hb⟩:=hrel;have HX:=hd0 hb;have c2:ng.cell? ⟨w.heap.size,2,none⟩=some (.slice A2 chars.length d2):=((aj HX.out).1 _ _ z0).trans (HK.out.cell 2);by_cases hlt:k<chars.length
   ·
    obtain⟨b,o,x,rfl,-,hx,q0,q1,i0,i1⟩:=(H2.out.lw alm.ok hb).chr hlt;have hsn:Hid (S71++(chars.take (k+1)).flatMap lQ=S71++(chars.take k).flatMap lQ++ai x.rune++ai x.akY):=by show _=_;rw[dU hx.out];simp[lQ]
    have hf:=gZ (f:=lQ) hx.out;simp only[lQ,la,aT,ln] at hf;have hs0:(S71++(chars.take k).flatMap lQ).length<=S71.length+((chars.take k).flatMap lQ).length:=bu _ _;clear hx;have xc:∀xw:WIn (fun v=>Below ng.heap.size ng v),xw.w.cell? ⟨w.heap.size,2,none⟩=some (.slice (some ⟨b,o,none⟩) chars.length d2):=aC c2;have xq0:∀xw:WIn (fun v=>Below ng.heap.size ng v),xw.w.cell? ⟨b,o+k*2,none⟩=some (.int .i64 x.rune):=aC q0;have xq1:∀xw:WIn (fun v=>Below ng.heap.size ng v),xw.w.cell? ⟨b,o+k*2+1,none⟩=some (.int .i64 x.akY):=aC q1;have tu:=hd0 (aP (W:=ng) (fun w' _=>aF w' (x.rune) i0));have HA1:=hd0 (aP (W:=ng) (fun w' _=>aF w' (x.akY) i1));generalize S71++(chars.take k).flatMap lQ=S75 at*
    generalize ai x.rune=D0 at*
    generalize ai x.akY=D1 at*
    have aiN:∀w',(Op.stringOp .add ⟨S75.toArray⟩ ⟨D0.toArray⟩).run Tryz.prog w'= .ok (.string ⟨(S75++D0).toArray⟩) w':=bF S75 D0 (by omega);have aiS:(S75++D0).length<=S75.length+D0.length:=bu _ _;generalize hS76:S75++D0=S76 at*
    have ahc:=hd0 hS76.symm;clear hS76;have ajS:∀w',(Op.stringOp .add ⟨S76.toArray⟩ ⟨D1.toArray⟩).run Tryz.prog w'= .ok (.string ⟨(S76++D1).toArray⟩) w':=bF S76 D1 (by omega);have ajh:(S76++D1).length<=S76.length+D1.length:=bu _ _;generalize hS77:S76++D1=S77 at*
    have agx:=hd0 hS77.symm;clear hS77;clear hf hs0 hb q0 q1;go_wp2_with fail
    refine bW (fun v=>Below ng.heap.size ng v) (by kernel_rfl) (by kernel_rfl) ((ant ng.heap.size ng).drew) ?_;have bT:Nonempty (WIn (fun v=>Below ng.heap.size ng v)):=⟨⟨_,((ant ng.heap.size ng).drew)⟩⟩
    repeat(go_big_quiet_step (first|with_reducible exact tu.out _|with_reducible exact HA1.out _))
    refine wpQuiet_nil ?_;intro _ hw';obtain⟨xq,hw''⟩:=hw';subst hw'';have oI:Hid (Below W0.heap.size W0 xq.w):=hd0 (HX.out.trans (xq.ok.mono HX.out.size));generalize xq.w=wz at*
    go_wp2_with fail
    go_roundw
    case rel=>exact⟨k+1,by omega,by simp,by rw[hsn.out,agx.out,ahc.out],oI.out⟩
    case measure=>simp[intOf];omega
   obtain rfl:k=chars.length:=by omega
   rw[anA];have ajf:(S71++chars.flatMap lQ).length<=S71.length+(chars.flatMap lQ).length:=bu _ _;generalize hS78:S71++chars.flatMap lQ=S78 at*
   have af4:=hd0 hS78.symm;clear hS78;have c3:ng.cell? ⟨w.heap.size,3,none⟩=some (.slice A3 akK.length d3):=((aj HX.out).1 _ _ z0).trans (HK.out.cell 3);have ajU:∀w',(Op.stringOp .add ⟨S78.toArray⟩ ⟨D3.toArray⟩).run Tryz.prog w'= .ok (.string ⟨(S78++D3).toArray⟩) w':=bF S78 D3 (by omega);have aiU:(S78++D3).length<=S78.length+D3.length:=bu _ _;generalize hS79:S78++D3=S79 at*
   have agR:=hd0 hS79.symm;clear hS79;go_wp2_with fail
   refine(HD3.out _).mono ?_;rintro e ag8 ⟨rfl,hbd⟩;have afQ:Hid (Below W0.heap.size W0 ag8):=hd0 (HX.out.trans (hbd.mono HX.out.size));clear hbd c3 HX hb;go_wp2_with fail
   go_loopw [3,6] (fun s i wr=>∃k:Nat,k<=akK.length/\i= .int .i64 k/\s= .string ⟨(S79++(akK.take k).flatMap iq).toArray⟩/\Below W0.heap.size W0 wr) (fun _ i _=>akK.length - (intOf i).toNat)
   case atStart=>exact⟨0,nz _,rfl,by simp,afQ.out⟩
   case round=>
    obtain⟨ZU,rfl⟩:∃x,x=wr:=⟨_,rfl⟩
    obtain⟨k,hk,rfl,rfl,hb⟩:=hrel;have HX:=hd0 hb;have c3:ZU.cell? ⟨w.heap.size,3,none⟩=some (.slice A3 akK.length d3):=((aj HX.out).1 _ _ z0).trans (HK.out.cell 3);by_cases hlt:k<akK.length
    ·
     obtain⟨b,o,x,B2,e2,rfl,-,hx,q0,q1,q2,i0,h0⟩:=(H3.out.lw akS.ok hb).lookup hlt;have hsn:Hid (S79++(akK.take (k+1)).flatMap iq=S79++(akK.take k).flatMap iq++iq x):=by show _=_;rw[dU hx.out];simp
     have hf:=gZ (f:=iq) hx.out;have hs0:(S79++(akK.take k).flatMap iq).length<=S79.length+((akK.take k).flatMap iq).length:=bu _ _;have HA:=hd0 (UZ ZU x B2 e2 i0 h0 (by omega));generalize S79++(akK.take k).flatMap iq=S83 at*
     generalize iq x=D9 at*
     have aiK:∀w',(Op.stringOp .add ⟨S83.toArray⟩ ⟨D9.toArray⟩).run Tryz.prog w'= .ok (.string ⟨(S83++D9).toArray⟩) w':=bF S83 D9 (by omega);have ai5:(S83++D9).length<=S83.length+D9.length:=bu _ _;generalize hS84:S83++D9=S84 at*
     have agj:=hd0 hS84.symm;clear hS84;clear hx hf hs0 hb;go_wp2_with fail
     refine HA.out.mono ?_;rintro e wz ⟨rfl,hbz⟩;have oI:Hid (Below W0.heap.size W0 wz):=hd0 (HX.out.trans (hbz.mono HX.out.size));clear hbz HA;go_wp2_with fail
     go_roundw
     case rel=>exact⟨k+1,by omega,by simp,by rw[hsn.out,agj.out],oI.out⟩
     case measure=>simp[intOf];omega
    obtain rfl:k=akK.length:=by omega
    rw[anA];have ajJ:(S79++akK.flatMap iq).length<=S79.length+(akK.flatMap iq).length:=bu _ _;generalize hS85:S79++akK.flatMap iq=S85 at*
    have age:=hd0 hS85.symm;clear hS85;have c4:ZU.cell? ⟨w.heap.size,4,none⟩=some (.slice A4 ak0.length d4):=((aj HX.out).1 _ _ z0).trans (HK.out.cell 4);have akf:∀w',(Op.stringOp .add ⟨S85.toArray⟩ ⟨D4.toArray⟩).run Tryz.prog w'= .ok (.string ⟨(S85++D4).toArray⟩) w':=bF S85 D4 (by omega);have akr:(S85++D4).length<=S85.length+D4.length:=bu _ _;generalize hS86:S85++D4=S86 at*
    have ahV:=hd0 hS86.symm;clear hS86;go_wp2_with fail
    refine(HD4.out _).mono ?_;rintro e af9 ⟨rfl,hbd⟩;have aft:Hid (Below W0.heap.size W0 af9):=hd0 (HX.out.trans (hbd.mono HX.out.size));clear hbd c4 HX hb;go_wp2_with fail
    go_loopw [3,7] (fun s i wr=>∃k:Nat,k<=ak0.length/\i= .int .i64 k/\s= .string ⟨(S86++(ak0.take k).flatMap jo).toArray⟩/\Below W0.heap.size W0 wr) (fun _ i _=>ak0.length - (intOf i).toNat)
    case atStart=>exact⟨0,nz _,rfl,by simp,aft.out⟩
    case round=>
     obtain⟨ny,rfl⟩:∃x,x=wr:=⟨_,rfl⟩
     obtain⟨k,hk,rfl,rfl,hb⟩:=hrel;have HX:=hd0 hb;have c4:ny.cell? ⟨w.heap.size,4,none⟩=some (.slice A4 ak0.length d4):=((aj HX.out).1 _ _ z0).trans (HK.out.cell 4);by_cases hlt:k<ak0.length
     ·
      obtain⟨b,o,x,B1,e1,rfl,-,hx,q0,q1,h0⟩:=(H4.out.lw akR.ok hb).amq hlt;have hsn:Hid (S86++(ak0.take (k+1)).flatMap jo=S86++(ak0.take k).flatMap jo++ai (x.name.length:Int)++x.name++[32]++rowB x.akK):=by show _=_;rw[dU hx.out];simp[jo,rY]
      have hf:=gZ (f:=jo) hx.out;simp only[jo,rY,la,aT,ln] at hf;have hs0:(S86++(ak0.take k).flatMap jo).length<=S86.length+((ak0.take k).flatMap jo).length:=bu _ _;clear hx;have xc:∀xw:WIn (fun v=>Below ny.heap.size ny v),xw.w.cell? ⟨w.heap.size,4,none⟩=some (.slice (some ⟨b,o,none⟩) ak0.length d4):=aC c4;have xq0:∀xw:WIn (fun v=>Below ny.heap.size ny v),xw.w.cell? ⟨b,o+k*2,none⟩=some (.string ⟨x.name.toArray⟩):=aC q0;have xq1:∀xw:WIn (fun v=>Below ny.heap.size ny v),xw.w.cell? ⟨b,o+k*2+1,none⟩=some (.slice B1 x.akK.length e1):=aC q1;have Pg:I64 (x.name.length:Int):=⟨by omega,by omega⟩
      have tu:=hd0 (aP (W:=ny) (fun w' _=>aF w' (x.name.length) Pg));clear Pg;have HA1:=hd0 (aP (W:=ny) (fun w' hw'=>yO w' B1 e1 x.akK (h0.lw akL.ok hw') (by omega)));generalize S86++(ak0.take k).flatMap jo=S90 at*
      generalize ai (x.name.length:Int)=D0 at*
      generalize rowB x.akK=D1 at*
      have ajW:∀w',(Op.stringOp .add ⟨S90.toArray⟩ ⟨D0.toArray⟩).run Tryz.prog w'= .ok (.string ⟨(S90++D0).toArray⟩) w':=bF S90 D0 (by omega);have ajX:(S90++D0).length<=S90.length+D0.length:=bu _ _;generalize hS91:S90++D0=S91 at*
      have agb:=hd0 hS91.symm;clear hS91;have aj2:∀w',(Op.stringOp .add ⟨S91.toArray⟩ ⟨x.name.toArray⟩).run Tryz.prog w'= .ok (.string ⟨(S91++x.name).toArray⟩) w':=bF S91 x.name (by omega);have ajm:(S91++x.name).length<=S91.length+x.name.length:=bu _ _;generalize hS92:S91++x.name=S92 at*
      have af0:=hd0 hS92.symm;clear hS92;have akB:∀w',(Op.stringOp .add ⟨S92.toArray⟩ ⟨#[32]⟩).run Tryz.prog w'= .ok (.string ⟨(S92++[32]).toArray⟩) w':=bF S92 [32] (by simp only[aT,ln];omega);have ajo:(S92++[32]).length<=S92.length+1:=bu _ _;generalize hS93:S92++[32]=S93 at*
      have agt:=hd0 hS93.symm;clear hS93;have aje:∀w',(Op.stringOp .add ⟨S93.toArray⟩ ⟨D1.toArray⟩).run Tryz.prog w'= .ok (.string ⟨(S93++D1).toArray⟩) w':=bF S93 D1 (by omega);have ajn:(S93++D1).length<=S93.length+D1.length:=bu _ _;generalize hS94:S93++D1=S94 at*
      have agM:=hd0 hS94.symm;clear hS94;clear hf hs0 hb q0 q1;go_wp2_with fail
      refine bW (fun v=>Below ny.heap.size ny v) (by kernel_rfl) (by kernel_rfl) ((ant ny.heap.size ny).drew) ?_;have bT:Nonempty (WIn (fun v=>Below ny.heap.size ny v)):=⟨⟨_,((ant ny.heap.size ny).drew)⟩⟩
      repeat(go_big_quiet_step (first|with_reducible exact tu.out _|with_reducible exact HA1.out _))
      refine wpQuiet_nil ?_;intro _ hw';obtain⟨xq,hw''⟩:=hw';subst hw'';have oI:Hid (Below W0.heap.size W0 xq.w):=hd0 (HX.out.trans (xq.ok.mono HX.out.size));generalize xq.w=wz at*
      go_wp2_with fail
      go_roundw
      case rel=>exact⟨k+1,by omega,by simp,by rw[hsn.out,agM.out,agt.out,af0.out,agb.out],oI.out⟩
      case measure=>simp[intOf];omega
     obtain rfl:k=ak0.length:=by omega
     rw[anA];have ajw:(S86++ak0.flatMap jo).length<=S86.length+(ak0.flatMap jo).length:=bu _ _;generalize hS95:S86++ak0.flatMap jo=S95 at*
     have ahJ:=hd0 hS95.symm;clear hS95;have c5:ny.cell? ⟨w.heap.size,5,none⟩=some (.slice A5 akP.length d5):=((aj HX.out).1 _ _ z0).trans (HK.out.cell 5);have ajN:∀w',(Op.stringOp .add ⟨S95.toArray⟩ ⟨D5.toArray⟩).run Tryz.prog w'= .ok (.string ⟨(S95++D5).toArray⟩) w':=bF S95 D5 (by omega);have akH:(S95++D5).length<=S95.length+D5.length:=bu _ _;generalize hS96:S95++D5=S96 at*
     have ah5:=hd0 hS96.symm;clear hS96;go_wp2_with fail
     refine(HD5.out _).mono ?_;rintro e af5 ⟨rfl,hbd⟩;have afX:Hid (Below W0.heap.size W0 af5):=hd0 (HX.out.trans (hbd.mono HX.out.size));clear hbd c5 HX hb;go_wp2_with fail
     go_loopw [3,8] (fun s i wr=>∃k:Nat,k<=akP.length/\i= .int .i64 k/\s= .string ⟨(S96++(akP.take k).flatMap jm).toArray⟩/\Below W0.heap.size W0 wr) (fun _ i _=>akP.length - (intOf i).toNat)
     case atStart=>exact⟨0,nz _,rfl,by simp,afX.out⟩
     case round=>
      obtain⟨Be,rfl⟩:∃x,x=wr:=⟨_,rfl⟩
      obtain⟨k,hk,rfl,rfl,hb⟩:=hrel;have HX:=hd0 hb;have c5:Be.cell? ⟨w.heap.size,5,none⟩=some (.slice A5 akP.length d5):=((aj HX.out).1 _ _ z0).trans (HK.out.cell 5);by_cases hlt:k<akP.length
      ·
       obtain⟨b,o,x,rfl,-,hx,q0,q1,q2,q3,i1,i2,i3⟩:=(H5.out.lw ale.ok hb).am8 hlt;have hsn:Hid (S96++(akP.take (k+1)).flatMap jm=S96++(akP.take k).flatMap jm++ai (x.name.length:Int)++x.name++[32]++ai x.min'++ai x.alI++ai x.max'):=by show _=_;rw[dU hx.out];simp[jm,rY]
       have hf:=gZ (f:=jm) hx.out;simp only[jm,rY,la,aT,ln] at hf;have hs0:(S96++(akP.take k).flatMap jm).length<=S96.length+((akP.take k).flatMap jm).length:=bu _ _;clear hx hb;go_wp2_with fail
       obtain⟨kG,hW2⟩:∃W2,Be.alloc (.cells #[.string ⟨x.name.toArray⟩,.int .i64 x.min',.int .i64 x.alI,.int .i64 x.max'] 99)=W2:=⟨_,rfl⟩
       rw[hW2];have aa2:Hid (Below W0.heap.size W0 kG):=by rw[<-hW2];exact hd0 (HX.out.alloc HX.out.size _)
       have b2:Bk kG Be.heap.size 99 #[.string ⟨x.name.toArray⟩,.int .i64 x.min',.int .i64 x.alI,.int .i64 x.max']:=by rw[<-hW2];exact Bk.new _ _ _
       clear hW2;have x0:∀xw:WIn (fun v=>Below kG.heap.size kG v),xw.w.cell? ⟨Be.heap.size,0,none⟩=some (.string ⟨x.name.toArray⟩):=aC (b2.cell 0);have x1:∀xw:WIn (fun v=>Below kG.heap.size kG v),xw.w.cell? ⟨Be.heap.size,1,none⟩=some (.int .i64 x.min'):=aC (b2.cell 1);have x2:∀xw:WIn (fun v=>Below kG.heap.size kG v),xw.w.cell? ⟨Be.heap.size,2,none⟩=some (.int .i64 x.alI):=aC (b2.cell 2);have x3:∀xw:WIn (fun v=>Below kG.heap.size kG v),xw.w.cell? ⟨Be.heap.size,3,none⟩=some (.int .i64 x.max'):=aC (b2.cell 3);clear b2;have Pg:I64 (x.name.length:Int):=⟨by omega,by omega⟩
       have tu:=hd0 (aP (W:=kG) (fun w' _=>aF w' (x.name.length) Pg));clear Pg;have HA1:=hd0 (aP (W:=kG) (fun w' _=>aF w' (x.min') i1));have HA2:=hd0 (aP (W:=kG) (fun w' _=>aF w' (x.alI) i2));have EQ:=hd0 (aP (W:=kG) (fun w' _=>aF w' (x.max') i3));generalize S96++(akP.take k).flatMap jm=S101 at*
       generalize ai (x.name.length:Int)=D0 at*
       generalize ai x.min'=D1 at*
       generalize ai x.alI=D2 at*
       generalize ai x.max'=D3 at*
       have aiu:∀w',(Op.stringOp .add ⟨S101.toArray⟩ ⟨D0.toArray⟩).run Tryz.prog w'= .ok (.string ⟨(S101++D0).toArray⟩) w':=bF S101 D0 (by omega);have aiI:(S101++D0).length<=S101.length+D0.length:=bu _ _;generalize hS102:S101++D0=S102 at*
       have afH:=hd0 hS102.symm;clear hS102;have aim:∀w',(Op.stringOp .add ⟨S102.toArray⟩ ⟨x.name.toArray⟩).run Tryz.prog w'= .ok (.string ⟨(S102++x.name).toArray⟩) w':=bF S102 x.name (by omega);have aiA:(S102++x.name).length<=S102.length+x.name.length:=bu _ _;generalize hS103:S102++x.name=S103 at*
       have afy:=hd0 hS103.symm;clear hS103;have aie:∀w',(Op.stringOp .add ⟨S103.toArray⟩ ⟨#[32]⟩).run Tryz.prog w'= .ok (.string ⟨(S103++[32]).toArray⟩) w':=bF S103 [32] (by simp only[aT,ln];omega);have aid:(S103++[32]).length<=S103.length+1:=bu _ _;generalize hS104:S103++[32]=S104 at*
       have afw:=hd0 hS104.symm;clear hS104;have aib:∀w',(Op.stringOp .add ⟨S104.toArray⟩ ⟨D1.toArray⟩).run Tryz.prog w'= .ok (.string ⟨(S104++D1).toArray⟩) w':=bF S104 D1 (by omega);have aiy:(S104++D1).length<=S104.length+D1.length:=bu _ _;generalize hS105:S104++D1=S105 at*
       have afe:=hd0 hS105.symm;clear hS105;have ais:∀w',(Op.stringOp .add ⟨S105.toArray⟩ ⟨D2.toArray⟩).run Tryz.prog w'= .ok (.string ⟨(S105++D2).toArray⟩) w':=bF S105 D2 (by omega);have air:(S105++D2).length<=S105.length+D2.length:=bu _ _;generalize hS106:S105++D2=S106 at*
       have afj:=hd0 hS106.symm;clear hS106;have ait:∀w',(Op.stringOp .add ⟨S106.toArray⟩ ⟨D3.toArray⟩).run Tryz.prog w'= .ok (.string ⟨(S106++D3).toArray⟩) w':=bF S106 D3 (by omega);have aiF:(S106++D3).length<=S106.length+D3.length:=bu _ _;generalize hS107:S106++D3=S107 at*
       have afr:=hd0 hS107.symm;clear hS107;clear hf hs0;refine bW (fun v=>Below kG.heap.size kG v) (by kernel_rfl) (by kernel_rfl) ((ant kG.heap.size kG).drew) ?_;have bT:Nonempty (WIn (fun v=>Below kG.heap.size kG v)):=⟨⟨_,((ant kG.heap.size kG).drew)⟩⟩
       repeat(go_big_quiet_step (first|with_reducible exact tu.out _|with_reducible exact HA1.out _|with_reducible exact HA2.out _|with_reducible exact EQ.out _))
       refine wpQuiet_nil ?_;intro _ hw';obtain⟨xq,hw''⟩:=hw';subst hw'';have oI:Hid (Below W0.heap.size W0 xq.w):=hd0 (aa2.out.trans (xq.ok.mono aa2.out.size));generalize xq.w=wz at*
       go_wp2_with fail
       go_roundw
       case rel=>exact⟨k+1,by omega,by simp,by rw[hsn.out,afr.out,afj.out,afe.out,afw.out,afy.out,afH.out],oI.out⟩
       case measure=>simp[intOf];omega
      obtain rfl:k=akP.length:=by omega
      rw[anA];have aig:(S96++akP.flatMap jm).length<=S96.length+(akP.flatMap jm).length:=bu _ _;generalize hS108:S96++akP.flatMap jm=S108 at*
      have afn:=hd0 hS108.symm;clear hS108;have c6:Be.cell? ⟨w.heap.size,6,none⟩=some (.slice A6 regs.length d6):=((aj HX.out).1 _ _ z0).trans (HK.out.cell 6);have aiE:∀w',(Op.stringOp .add ⟨S108.toArray⟩ ⟨D6.toArray⟩).run Tryz.prog w'= .ok (.string ⟨(S108++D6).toArray⟩) w':=bF S108 D6 (by omega);have aiq:(S108++D6).length<=S108.length+D6.length:=bu _ _;generalize hS109:S108++D6=S109 at*
      have afD:=hd0 hS109.symm;clear hS109;go_wp2_with fail
      refine(HD6.out _).mono ?_;rintro e afF ⟨rfl,hbd⟩;have aeF:Hid (Below W0.heap.size W0 afF):=hd0 (HX.out.trans (hbd.mono HX.out.size));clear hbd c6 HX hb;go_wp2_with fail
      go_loopw [3,10] (fun s i wr=>∃k:Nat,k<=regs.length/\i= .int .i64 k/\s= .string ⟨(S109++(regs.take k).flatMap lS).toArray⟩/\Below W0.heap.size W0 wr) (fun _ i _=>regs.length - (intOf i).toNat)
      case atStart=>exact⟨0,nz _,rfl,by simp,aeF.out⟩
      case round=>
       obtain⟨uC,rfl⟩:∃x,x=wr:=⟨_,rfl⟩
       obtain⟨k,hk,rfl,rfl,hb⟩:=hrel;have HX:=hd0 hb;have c6:uC.cell? ⟨w.heap.size,6,none⟩=some (.slice A6 regs.length d6):=((aj HX.out).1 _ _ z0).trans (HK.out.cell 6);by_cases hlt:k<regs.length
       ·
        obtain⟨b,o,x,B0,e0,rfl,-,hx,q0,h0⟩:=(H6.out.lw akU.ok hb).region hlt;have hsn:Hid (S109++(regs.take (k+1)).flatMap lS=S109++(regs.take k).flatMap lS++ai (x.ak1.length:Int)++x.ak1.flatMap jY):=by show _=_;rw[dU hx.out];simp[lS,Bv]
        have hf:=gZ (f:=lS) hx.out;simp only[lS,Bv,la] at hf;have hs0:(S109++(regs.take k).flatMap lS).length<=S109.length+((regs.take k).flatMap lS).length:=bu _ _;have n9:I64 (x.ak1.length:Int):=lg jY JI x.ak1 (by omega);have ln9:x.ak1.length<=100000000000000:=nt (fB jY JI x.ak1) (by omega);have K0:=hd0 h0;have HA:=hd0 (fun w'=>aF w' _ n9);clear n9;generalize S109++(regs.take k).flatMap lS=S113 at*
        generalize ai (x.ak1.length:Int)=E0 at*
        have aio:∀w',(Op.stringOp .add ⟨S113.toArray⟩ ⟨E0.toArray⟩).run Tryz.prog w'= .ok (.string ⟨(S113++E0).toArray⟩) w':=bF S113 E0 (by omega);have ain:(S113++E0).length<=S113.length+E0.length:=bu _ _;generalize hS114:S113++E0=S114 at*
        have afp:=hd0 hS114.symm;clear hS114;have zb:=World.block_lt_of_cell? _ _ q0;clear hx hb;go_wp2_with fail
        refine(HA.out _).mono ?_;rintro e wb ⟨rfl,hbb⟩;have Hwb:=hd0 hbb;clear hbb HA;go_wp2_with fail
        go_loopw [3,11] (fun s i wr=>∃j:Nat,j<=x.ak1.length/\i= .int .i64 j/\s= .string ⟨(S114++(x.ak1.take j).flatMap jY).toArray⟩/\Below uC.heap.size uC wr) (fun _ i _=>x.ak1.length - (intOf i).toNat)
        case atStart=>exact⟨0,nz _,rfl,by simp,Hwb.out⟩
        case round=>
         obtain⟨wi,rfl⟩:∃x,x=wr:=⟨_,rfl⟩
         obtain⟨j,hj,rfl,rfl,hb⟩:=hrel;have EM:Hid (Below uC.heap.size uC wi):=hd0 hb;have HXw:Hid (Below W0.heap.size W0 wi):=hd0 (HX.out.trans (hb.mono HX.out.size));have c6i:wi.cell? ⟨w.heap.size,6,none⟩=some (.slice (some ⟨b,o,none⟩) regs.length d6):=((aj HXw.out).1 _ _ z0).trans (HK.out.cell 6);have q0i:wi.cell? ⟨b,o+k,none⟩=some (.slice B0 x.ak1.length e0):=((aj EM.out).1 _ _ zb).trans q0;by_cases hltj:j<x.ak1.length
         ·
          obtain⟨b2,o2,y,rfl,-,hy,u0,u1,u2,j0,j1,j2⟩:=(K0.out.lw alM.ok hb).amW hltj;have FU:Hid (S114++(x.ak1.take (j+1)).flatMap jY=S114++(x.ak1.take j).flatMap jY++ai y.start++ai y.peak++ai y.stop):=by show _=_;rw[dU hy.out];simp[jY]
          have hf2:=gZ (f:=jY) hy.out;simp only[jY,la] at hf2;have hs2:(S114++(x.ak1.take j).flatMap jY).length<=S114.length+((x.ak1.take j).flatMap jY).length:=bu _ _;clear hy;go_wp2_with fail
          obtain⟨W2,hW2⟩:∃W2,wi.alloc (.cells #[.int .i64 y.start,.int .i64 y.peak,.int .i64 y.stop] 101)=W2:=⟨_,rfl⟩
          rw[hW2];have HW2:Hid (Below uC.heap.size uC W2):=by rw[<-hW2];exact hd0 (EM.out.alloc EM.out.size _)
          have b3:Bk W2 wi.heap.size 101 #[.int .i64 y.start,.int .i64 y.peak,.int .i64 y.stop]:=by rw[<-hW2];exact Bk.new _ _ _
          clear hW2;have x0:∀xw:WIn (fun v=>Below W2.heap.size W2 v),xw.w.cell? ⟨wi.heap.size,0,none⟩=some (.int .i64 y.start):=aC (b3.cell 0);have x1:∀xw:WIn (fun v=>Below W2.heap.size W2 v),xw.w.cell? ⟨wi.heap.size,1,none⟩=some (.int .i64 y.peak):=aC (b3.cell 1);have x2:∀xw:WIn (fun v=>Below W2.heap.size W2 v),xw.w.cell? ⟨wi.heap.size,2,none⟩=some (.int .i64 y.stop):=aC (b3.cell 2);have HB0:=hd0 (aP (W:=W2) (fun w' _=>aF w' (y.start) j0));have HB1:=hd0 (aP (W:=W2) (fun w' _=>aF w' (y.peak) j1));have HB2:=hd0 (aP (W:=W2) (fun w' _=>aF w' (y.stop) j2));generalize S114++(x.ak1.take j).flatMap jY=S115 at*
          generalize ai y.start=G0 at*
          generalize ai y.peak=G1 at*
          generalize ai y.stop=G2 at*
          have aiG:∀w',(Op.stringOp .add ⟨S115.toArray⟩ ⟨G0.toArray⟩).run Tryz.prog w'= .ok (.string ⟨(S115++G0).toArray⟩) w':=bF S115 G0 (by omega);have aiH:(S115++G0).length<=S115.length+G0.length:=bu _ _;generalize hS116:S115++G0=S116 at*
          have afh:=hd0 hS116.symm;clear hS116;have aiv:∀w',(Op.stringOp .add ⟨S116.toArray⟩ ⟨G1.toArray⟩).run Tryz.prog w'= .ok (.string ⟨(S116++G1).toArray⟩) w':=bF S116 G1 (by omega);have aix:(S116++G1).length<=S116.length+G1.length:=bu _ _;generalize hS117:S116++G1=S117 at*
          have afM:=hd0 hS117.symm;clear hS117;have aip:∀w',(Op.stringOp .add ⟨S117.toArray⟩ ⟨G2.toArray⟩).run Tryz.prog w'= .ok (.string ⟨(S117++G2).toArray⟩) w':=bF S117 G2 (by omega);have aiC:(S117++G2).length<=S117.length+G2.length:=bu _ _;generalize hS118:S117++G2=S118 at*
          have afG:=hd0 hS118.symm;clear hS118;clear b3 hf2 hs2 hb u0 u1 u2 j0 j1 j2;refine bW (fun v=>Below W2.heap.size W2 v) (by kernel_rfl) (by kernel_rfl) ((ant W2.heap.size W2).drew) ?_;have bT:Nonempty (WIn (fun v=>Below W2.heap.size W2 v)):=⟨⟨_,((ant W2.heap.size W2).drew)⟩⟩
          repeat(go_big_quiet_step (first|with_reducible exact HB0.out _|with_reducible exact HB1.out _|with_reducible exact HB2.out _))
          refine wpQuiet_nil ?_;intro _ hw';obtain⟨xq,hw''⟩:=hw';subst hw'';have oI:Hid (Below uC.heap.size uC xq.w):=hd0 (HW2.out.trans (xq.ok.mono HW2.out.size));generalize xq.w=wz at*
          go_wp2_with fail
          go_roundw
          case rel=>exact⟨j+1,by omega,by simp,by rw[FU.out,afG.out,afM.out,afh.out],oI.out⟩
          case measure=>simp[intOf];omega
         obtain rfl:j=x.ak1.length:=by omega
         rw[anA];generalize hS119:S114++x.ak1.flatMap jY=S119 at*
         have afd:=hd0 hS119.symm;clear hS119 hb hf hs0;go_wp2_with fail
         go_roundw
         case rel=>exact⟨k+1,by omega,by simp,by rw[hsn.out,afd.out,afp.out],HXw.out⟩
         case measure=>simp[intOf];omega
       obtain rfl:k=regs.length:=by omega
       rw[anA];have aif:(S109++regs.flatMap lS).length<=S109.length+(regs.flatMap lS).length:=bu _ _;generalize hS120:S109++regs.flatMap lS=S120 at*
       have afI:=hd0 hS120.symm;clear hS120;have c7:uC.cell? ⟨w.heap.size,7,none⟩=some (.slice A7 funcs.length d7):=((aj HX.out).1 _ _ z0).trans (HK.out.cell 7);have aiD:∀w',(Op.stringOp .add ⟨S120.toArray⟩ ⟨D7.toArray⟩).run Tryz.prog w'= .ok (.string ⟨(S120++D7).toArray⟩) w':=bF S120 D7 (by omega);have aih:(S120++D7).length<=S120.length+D7.length:=bu _ _;generalize hS121:S120++D7=S121 at*
       have afi:=hd0 hS121.symm;clear hS121;go_wp2_with fail
       refine(HD7.out _).mono ?_;rintro e afA ⟨rfl,hbd⟩;have acL:Hid (Below W0.heap.size W0 afA):=hd0 (HX.out.trans (hbd.mono HX.out.size));clear hbd c7 HX hb;go_wp2_with fail
       go_loopw [3,13] (fun s i wr=>∃k:Nat,k<=funcs.length/\i= .int .i64 k/\s= .string ⟨(S121++(funcs.take k).flatMap fG).toArray⟩/\Below W0.heap.size W0 wr) (fun _ i _=>funcs.length - (intOf i).toNat)
       case atStart=>exact⟨0,nz _,rfl,by simp,acL.out⟩
       case round=>
        obtain⟨Tt,rfl⟩:∃x,x=wr:=⟨_,rfl⟩
        obtain⟨k,hk,rfl,rfl,hb⟩:=hrel;have HX:=hd0 hb;have c7:Tt.cell? ⟨w.heap.size,7,none⟩=some (.slice A7 funcs.length d7):=((aj HX.out).1 _ _ z0).trans (HK.out.cell 7);by_cases hlt:k<funcs.length
        ·
         obtain⟨b,o,x,B1,e1,rfl,-,hx,q0,h0⟩:=(H7.out.lw ak6.ok hb).code hlt;have hsn:Hid (S121++(funcs.take (k+1)).flatMap fG=S121++(funcs.take k).flatMap fG++fG x):=by show _=_;rw[dU hx.out];simp
         have hf:=gZ (f:=fG) hx.out;have hs0:(S121++(funcs.take k).flatMap fG).length<=S121.length+((funcs.take k).flatMap fG).length:=bu _ _;have HA:=hd0 (Nj Tt B1 e1 x h0 (by omega));generalize S121++(funcs.take k).flatMap fG=S125 at*
         generalize fG x=D9 at*
         have aii:∀w',(Op.stringOp .add ⟨S125.toArray⟩ ⟨D9.toArray⟩).run Tryz.prog w'= .ok (.string ⟨(S125++D9).toArray⟩) w':=bF S125 D9 (by omega);have aij:(S125++D9).length<=S125.length+D9.length:=bu _ _;generalize hS126:S125++D9=S126 at*
         have ae9:=hd0 hS126.symm;clear hS126;clear hx hf hs0 hb;go_wp2_with fail
         refine HA.out.mono ?_;rintro e wz ⟨rfl,hbz⟩;have oI:Hid (Below W0.heap.size W0 wz):=hd0 (HX.out.trans (hbz.mono HX.out.size));clear hbz HA;go_wp2_with fail
         go_roundw
         case rel=>exact⟨k+1,by omega,by simp,by rw[hsn.out,ae9.out],oI.out⟩
         case measure=>simp[intOf];omega
        obtain rfl:k=funcs.length:=by omega
        rw[anA];have aiB:(S121++funcs.flatMap fG).length<=S121.length+(funcs.flatMap fG).length:=bu _ _;generalize hS127:S121++funcs.flatMap fG=S127 at*
        have afc:=hd0 hS127.symm;clear hS127;have c8:Tt.cell? ⟨w.heap.size,8,none⟩=some (.slice A8 cvt.length d8):=((aj HX.out).1 _ _ z0).trans (HK.out.cell 8);have aic:∀w',(Op.stringOp .add ⟨S127.toArray⟩ ⟨E.toArray⟩).run Tryz.prog w'= .ok (.string ⟨(S127++E).toArray⟩) w':=bF S127 E (by omega);have ail:(S127++E).length<=S127.length+E.length:=bu _ _;generalize hS128:S127++E=S128 at*
        have afS:=hd0 hS128.symm;clear hS128;go_wp2_with fail
        refine(HR.out _ _ _ (H8.out.lw akL.ok HX.out)).mono ?_;rintro e wy ⟨rfl,hby⟩;have HY2:Hid (Below W0.heap.size W0 wy):=hd0 (HX.out.trans (hby.mono HX.out.size));clear hby HR;go_wp2_with fail
        go_ret
        exact⟨by rw[afS.out,afc.out,afi.out,afI.out,afD.out,afn.out,ah5.out,ahJ.out,ahV.out,age.out,agR.out,af4.out,ahh.out,ahQ.out,ah3.out];rfl,HW.out.trans (HY2.out.mono HW.out.size)⟩
theorem abx (w:World)(f g:Fnt)(fc gc:List Value)(hf:aln w (Lw w) fc f)(hg:aln w (Lw w) gc g)(h1:(mZ f).length<=100000000000000)(h2:(mZ g).length<=100000000000000):
  Calls Tryz.prog 21 #[.agg fc.toArray,.agg gc.toArray] w fun e w'=>e= .returned (.bool (mZ f==mZ g))/\Below w.heap.size w w':=by
 obtain⟨A1,c1,A2,c2,A3,c3,A4,c4,A5,c5,A6,c6,A7,c7,A8,c8,rfl,i0,s1,s2,s3,s4,s5,s6,s7,s8⟩:=hf;obtain⟨B1,d1,B2,d2,B3,d3,B4,d4,B5,d5,B6,d6,B7,d7,B8,d8,rfl,j0,t1,t2,t3,t4,t5,t6,t7,t8⟩:=hg;have HF:=hd0 (fun w' (h:Below w.heap.size w w')=>Oj w' f A1 A2 A3 A4 A5 A6 A7 A8 c1 c2 c3 c4 c5 c6 c7 c8 i0 (s1.lw akQ.ok h) (s2.lw alm.ok h) (s3.lw akS.ok h) (s4.lw akR.ok h) (s5.lw ale.ok h) (s6.lw akU.ok h) (s7.lw ak6.ok h) (s8.lw akL.ok h) h1);have HG:=hd0 (fun w' (h:Below w.heap.size w w')=>Oj w' g B1 B2 B3 B4 B5 B6 B7 B8 d1 d2 d3 d4 d5 d6 d7 d8 j0 (t1.lw akQ.ok h) (t2.lw alm.ok h) (t3.lw akS.ok h) (t4.lw akR.ok h) (t5.lw ale.ok h) (t6.lw akU.ok h) (t7.lw ak6.ok h) (t8.lw akL.ok h) h2);clear s1 s2 s3 s4 s5 s6 s7 s8 t1 t2 t3 t4 t5 t6 t7 t8 i0 j0 h1 h2;generalize mZ f=PF at*
 generalize mZ g=PG at*
 go_enter Tryz.func21,Tryz.ntmps21
 go_wp2_with fail
 obtain⟨W1,hW1⟩:∃W1,w.alloc (.cells #[.int .i64 f.unit,.slice A1 f.akJ.length c1,.slice A2 f.chars.length c2,.slice A3 f.akK.length c3,.slice A4 f.features.length c4,.slice A5 f.akP.length c5,.slice A6 f.regions.length c6,.slice A7 f.funcs.length c7,.slice A8 f.cvt.length c8] 32)=W1:=⟨_,rfl⟩
 obtain⟨W2,hW2⟩:∃W2,W1.alloc (.cells #[.int .i64 g.unit,.slice B1 g.akJ.length d1,.slice B2 g.chars.length d2,.slice B3 g.akK.length d3,.slice B4 g.features.length d4,.slice B5 g.akP.length d5,.slice B6 g.regions.length d6,.slice B7 g.funcs.length d7,.slice B8 g.cvt.length d8] 32)=W2:=⟨_,rfl⟩
 have hz1:W1.heap.size=w.heap.size+1:=by rw[<-hW1];simp
 rw[hW1,hW2];have k1:Bk W1 w.heap.size 32 #[.int .i64 f.unit,.slice A1 f.akJ.length c1,.slice A2 f.chars.length c2,.slice A3 f.akK.length c3,.slice A4 f.features.length c4,.slice A5 f.akP.length c5,.slice A6 f.regions.length c6,.slice A7 f.funcs.length c7,.slice A8 f.cvt.length c8]:=by rw[<-hW1];exact Bk.new _ _ _
 have k2:Bk W2 W1.heap.size 32 #[.int .i64 g.unit,.slice B1 g.akJ.length d1,.slice B2 g.chars.length d2,.slice B3 g.akK.length d3,.slice B4 g.features.length d4,.slice B5 g.akP.length d5,.slice B6 g.regions.length d6,.slice B7 g.funcs.length d7,.slice B8 g.cvt.length d8]:=by rw[<-hW2];exact Bk.new _ _ _
 have k1':Bk W2 w.heap.size 32 #[.int .i64 f.unit,.slice A1 f.akJ.length c1,.slice A2 f.chars.length c2,.slice A3 f.akK.length c3,.slice A4 f.features.length c4,.slice A5 f.akP.length c5,.slice A6 f.regions.length c6,.slice A7 f.funcs.length c7,.slice A8 f.cvt.length c8]:=by rw[<-hW2];exact k1.alloc _
 have HB:Hid (Below w.heap.size w W2):=by rw[<-hW2,<-hW1];exact hd0 (((ant _ _).alloc (af _) _).alloc (by simp) _)
 rw[hz1] at k2;clear hW1 hW2 k1 hz1;have x0:∀xw:WIn (fun v=>Below W2.heap.size W2 v),xw.w.cell? ⟨w.heap.size,0,none⟩=some (.int .i64 f.unit):=aC (k1'.cell 0);have x1:∀xw:WIn (fun v=>Below W2.heap.size W2 v),xw.w.cell? ⟨w.heap.size,1,none⟩=some (.slice A1 f.akJ.length c1):=aC (k1'.cell 1);have x2:∀xw:WIn (fun v=>Below W2.heap.size W2 v),xw.w.cell? ⟨w.heap.size,2,none⟩=some (.slice A2 f.chars.length c2):=aC (k1'.cell 2);have x3:∀xw:WIn (fun v=>Below W2.heap.size W2 v),xw.w.cell? ⟨w.heap.size,3,none⟩=some (.slice A3 f.akK.length c3):=aC (k1'.cell 3);have x4:∀xw:WIn (fun v=>Below W2.heap.size W2 v),xw.w.cell? ⟨w.heap.size,4,none⟩=some (.slice A4 f.features.length c4):=aC (k1'.cell 4);have x5:∀xw:WIn (fun v=>Below W2.heap.size W2 v),xw.w.cell? ⟨w.heap.size,5,none⟩=some (.slice A5 f.akP.length c5):=aC (k1'.cell 5);have x6:∀xw:WIn (fun v=>Below W2.heap.size W2 v),xw.w.cell? ⟨w.heap.size,6,none⟩=some (.slice A6 f.regions.length c6):=aC (k1'.cell 6);have x7:∀xw:WIn (fun v=>Below W2.heap.size W2 v),xw.w.cell? ⟨w.heap.size,7,none⟩=some (.slice A7 f.funcs.length c7):=aC (k1'.cell 7);have x8:∀xw:WIn (fun v=>Below W2.heap.size W2 v),xw.w.cell? ⟨w.heap.size,8,none⟩=some (.slice A8 f.cvt.length c8):=aC (k1'.cell 8);have y0:∀xw:WIn (fun v=>Below W2.heap.size W2 v),xw.w.cell? ⟨(w.heap.size+1),0,none⟩=some (.int .i64 g.unit):=aC (k2.cell 0);have y1:∀xw:WIn (fun v=>Below W2.heap.size W2 v),xw.w.cell? ⟨(w.heap.size+1),1,none⟩=some (.slice B1 g.akJ.length d1):=aC (k2.cell 1);have y2:∀xw:WIn (fun v=>Below W2.heap.size W2 v),xw.w.cell? ⟨(w.heap.size+1),2,none⟩=some (.slice B2 g.chars.length d2):=aC (k2.cell 2);have y3:∀xw:WIn (fun v=>Below W2.heap.size W2 v),xw.w.cell? ⟨(w.heap.size+1),3,none⟩=some (.slice B3 g.akK.length d3):=aC (k2.cell 3);have y4:∀xw:WIn (fun v=>Below W2.heap.size W2 v),xw.w.cell? ⟨(w.heap.size+1),4,none⟩=some (.slice B4 g.features.length d4):=aC (k2.cell 4);have y5:∀xw:WIn (fun v=>Below W2.heap.size W2 v),xw.w.cell? ⟨(w.heap.size+1),5,none⟩=some (.slice B5 g.akP.length d5):=aC (k2.cell 5);have y6:∀xw:WIn (fun v=>Below W2.heap.size W2 v),xw.w.cell? ⟨(w.heap.size+1),6,none⟩=some (.slice B6 g.regions.length d6):=aC (k2.cell 6);have y7:∀xw:WIn (fun v=>Below W2.heap.size W2 v),xw.w.cell? ⟨(w.heap.size+1),7,none⟩=some (.slice B7 g.funcs.length d7):=aC (k2.cell 7);have y8:∀xw:WIn (fun v=>Below W2.heap.size W2 v),xw.w.cell? ⟨(w.heap.size+1),8,none⟩=some (.slice B8 g.cvt.length d8):=aC (k2.cell 8);have HFc:=hd0 (aP (W:=W2) (fun w' h=>HF.out w' (HB.out.trans (h.mono HB.out.size))));have HGc:=hd0 (aP (W:=W2) (fun w' h=>HG.out w' (HB.out.trans (h.mono HB.out.size))));clear HF HG k1' k2;refine bW (fun v=>Below W2.heap.size W2 v) (by kernel_rfl) (by kernel_rfl) ((ant W2.heap.size W2).drew) ?_;have bT:Nonempty (WIn (fun v=>Below W2.heap.size W2 v)):=⟨⟨_,((ant W2.heap.size W2).drew)⟩⟩
 repeat(go_big_quiet_step (first|with_reducible exact HFc.out _|with_reducible exact HGc.out _))
 refine wpQuiet_nil ?_;intro _ hw';obtain⟨xq,hw''⟩:=hw';subst hw'';have Hq:=HB.out.trans (xq.ok.mono HB.out.size);go_wp2_with fail
 go_ret
 exact⟨rfl,Hq⟩
end Go.Proofs.YtkijckccfookeaaGreatDoor
