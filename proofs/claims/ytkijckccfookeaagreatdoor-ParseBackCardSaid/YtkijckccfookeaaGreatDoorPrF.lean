/- Lemmas. -/
import Derived.Test.YtkijckccfookeaaGreatDoorPrG
import Derived.Test.YtkijckccfookeaaGreatDoorPrL
set_option linter.unusedVariables false
set_option linter.unusedSimpArgs false
set_option maxRecDepth 100000
set_option maxHeartbeats 32000000
namespace Go.Proofs.YtkijckccfookeaaGreatDoor
open Go.RowKit
theorem PV (x:Chr):1<=(jZ x).length:=by have:=fA x.rune;unfold jZ;simp only[az];omega
theorem KC (x:Lookup):1<=(fP x).length:=by have:=fA x.kind;unfold fP;simp only[az];omega
theorem KA (x:aon):1<=(iL x).length:=by have:=fA x.name.length;unfold iL oN;simp only[az];omega
theorem LG (x:aoA):1<=(iM x).length:=by have:=fA x.min';unfold iM;simp only[az];omega
theorem Ll (x:aot):1<=(jl x).length:=by have:=fA x.start;unfold jl;simp only[az];omega
theorem Ro (x:Region):1<=(lF x).length:=by have:=fA x.anT.length;unfold lF Dp;simp only[az];omega
theorem GN (x:anP):1<=(dS x).length:=by have:=fA x.advance;unfold dS;simp only[az];omega
theorem QV (w:World)(f:Fnt)(A1 A2 A3 A4 A5 A6 A7 A8:Option Addr)(d1 d2 d3 d4 d5 d6 d7 d8:Nat)(i0:I64 f.unit)(h1:Sl anS 9 w (Lw w) A1 f.anL)(h2:Sl aop 2 w (Lw w) A2 f.chars)(h3:Sl anV 3 w (Lw w) A3 f.anM)(h4:Sl anU 2 w (Lw w) A4 f.features)(h5:Sl aoh 4 w (Lw w) A5 f.anR)(h6:Sl anY 1 w (Lw w) A6 f.regions)(h7:Sl aod 1 w (Lw w) A7 f.funcs)(h8:Sl anO 1 w (Lw w) A8 f.cvt)(hlen:(jO f).length<=100000000000000):
  Calls Tryz.prog 50 #[.agg #[.int .i64 f.unit,.slice A1 f.anL.length d1,.slice A2 f.chars.length d2,.slice A3 f.anM.length d3,.slice A4 f.features.length d4,.slice A5 f.anR.length d5,.slice A6 f.regions.length d6,.slice A7 f.funcs.length d7,.slice A8 f.cvt.length d8]] w fun e w'=>e= .returned (.string ⟨(jO f).toArray⟩)/\Below w.heap.size w w':=by
 obtain⟨unit,anL,chars,anM,an3,anR,regs,funcs,cvt⟩:=f;have hgl:jO ⟨unit,anL,chars,anM,an3,anR,regs,funcs,cvt⟩=ai unit++ai (anL.length:Int)++anL.flatMap dS++ai (chars.length:Int)++chars.flatMap jZ++ai (anM.length:Int)++anM.flatMap fP++ai (an3.length:Int)++an3.flatMap iL++ai (anR.length:Int)++anR.flatMap iM++ai (regs.length:Int)++regs.flatMap lF++ai (funcs.length:Int)++funcs.flatMap eU++rowB cvt:=by simp[jO,Eb,Oi,GR,Ib,Ov,Oq,Hl]
 rw[hgl] at hlen ⊢;clear hgl;simp only[az] at hlen;simp only at i0 h1 h2 h3 h4 h5 h6 h7 h8 ⊢;have n1:I64 (anL.length:Int):=kV dS GN anL (by omega);have ln1:anL.length<=100000000000000:=nt (eY dS GN anL) (by omega);have n2:I64 (chars.length:Int):=kV jZ PV chars (by omega);have ln2:chars.length<=100000000000000:=nt (eY jZ PV chars) (by omega);have n3:I64 (anM.length:Int):=kV fP KC anM (by omega);have ln3:anM.length<=100000000000000:=nt (eY fP KC anM) (by omega);have n4:I64 (an3.length:Int):=kV iL KA an3 (by omega);have ln4:an3.length<=100000000000000:=nt (eY iL KA an3) (by omega);have n5:I64 (anR.length:Int):=kV iM LG anR (by omega);have ln5:anR.length<=100000000000000:=nt (eY iM LG anR) (by omega);have n6:I64 (regs.length:Int):=kV lF Ro regs (by omega);have ln6:regs.length<=100000000000000:=nt (eY lF Ro regs) (by omega);have n7:I64 (funcs.length:Int):=kV eU Lj funcs (by omega);have ln7:funcs.length<=100000000000000:=nt (eY eU Lj funcs) (by omega);have H1:=hd0 h1;have H2:=hd0 h2;have H3:=hd0 h3;have H4:=hd0 h4;have H5:=hd0 h5;have H6:=hd0 h6;have H7:=hd0 h7;have H8:=hd0 h8;have HD0:=hd0 (fun w'=>aG w' _ i0);have HD1:=hd0 (fun w'=>aG w' _ n1);have HD2:=hd0 (fun w'=>aG w' _ n2);have HD3:=hd0 (fun w'=>aG w' _ n3);have HD4:=hd0 (fun w'=>aG w' _ n4);have HD5:=hd0 (fun w'=>aG w' _ n5);have HD6:=hd0 (fun w'=>aG w' _ n6);have HD7:=hd0 (fun w'=>aG w' _ n7);have HE:=hd0 (show(rowB cvt).length<=100000000000000 by omega);have HR:=hd0 (fun w' c A (h:Sl anO 1 w' (Lw w') A cvt)=>yJ w' A c cvt h HE.out);clear i0 HE h1 h2 h3 h4 h5 h6 h7 h8 n1 n2 n3 n4 n5 n6 n7;generalize ai unit=D0 at*
 generalize ai (anL.length:Int)=D1 at*
 generalize ai (chars.length:Int)=D2 at*
 generalize ai (anM.length:Int)=D3 at*
 generalize ai (an3.length:Int)=D4 at*
 generalize ai (anR.length:Int)=D5 at*
 generalize ai (regs.length:Int)=D6 at*
 generalize ai (funcs.length:Int)=D7 at*
 generalize rowB cvt=E at*
 go_enter Tryz.func50,Tryz.ntmps50
 go_wp2_with fail
 obtain⟨W0,hW0⟩:∃W0,w.alloc (.cells #[.int .i64 unit,.slice A1 anL.length d1,.slice A2 chars.length d2,.slice A3 anM.length d3,.slice A4 an3.length d4,.slice A5 anR.length d5,.slice A6 regs.length d6,.slice A7 funcs.length d7,.slice A8 cvt.length d8] 32)=W0:=⟨_,rfl⟩
 rw[hW0];have HW:Hid (Below w.heap.size w W0):=by rw[<-hW0];exact hd0 ((aqk _ _).alloc (ag _) _)
 have HK:Hid (Bk W0 w.heap.size 32 #[.int .i64 unit,.slice A1 anL.length d1,.slice A2 chars.length d2,.slice A3 anM.length d3,.slice A4 an3.length d4,.slice A5 anR.length d5,.slice A6 regs.length d6,.slice A7 funcs.length d7,.slice A8 cvt.length d8]):=by rw[<-hW0];exact hd0 (Bk.new _ _ _)
 have z0:w.heap.size<W0.heap.size:=HK.out.lt;clear hW0;replace H1:=hd0 (H1.out.lw anS.ok HW.out);replace H2:=hd0 (H2.out.lw aop.ok HW.out);replace H3:=hd0 (H3.out.lw anV.ok HW.out);replace H4:=hd0 (H4.out.lw anU.ok HW.out);replace H5:=hd0 (H5.out.lw aoh.ok HW.out);replace H6:=hd0 (H6.out.lw anY.ok HW.out);replace H7:=hd0 (H7.out.lw aod.ok HW.out);replace H8:=hd0 (H8.out.lw anO.ok HW.out);have x0:∀xw:WIn (fun v=>Below W0.heap.size W0 v),xw.w.cell? ⟨w.heap.size,0,none⟩=some (.int .i64 unit):=ae (HK.out.cell 0);have x1:∀xw:WIn (fun v=>Below W0.heap.size W0 v),xw.w.cell? ⟨w.heap.size,1,none⟩=some (.slice A1 anL.length d1):=ae (HK.out.cell 1);have akf:∀w',(Op.stringOp .add ⟨D0.toArray⟩ ⟨D1.toArray⟩).run Tryz.prog w'= .ok (.string ⟨(D0++D1).toArray⟩) w':=au D0 D1 (by omega);have amY:(D0++D1).length<=D0.length+D1.length:=ax _ _;generalize hS65:D0++D1=S65 at*
 have akA:=hd0 hS65.symm;clear hS65;have CG:=hd0 (aj (W:=W0) (fun w' _=>HD0.out w'));have Cm:=hd0 (aj (W:=W0) (fun w' _=>HD1.out w'));refine aW (fun v=>Below W0.heap.size W0 v) (by kernel_rfl) (by kernel_rfl) ((aqk W0.heap.size W0).drew) ?_;have aU:Nonempty (WIn (fun v=>Below W0.heap.size W0 v)):=⟨⟨_,((aqk W0.heap.size W0).drew)⟩⟩
 repeat(go_big_quiet_step (first|with_reducible exact CG.out _|with_reducible exact Cm.out _))
 refine wpQuiet_nil ?_;intro _ hw';obtain⟨xq,hw''⟩:=hw';subst hw'';have yM:Hid (Below W0.heap.size W0 xq.w):=hd0 xq.ok;generalize xq.w=wa at*
 clear x0 x1 CG Cm aU akf;go_wp2_with fail
 go_loopw [3,4] (fun s i wr=>∃k:Nat,k<=anL.length/\i= .int .i64 k/\s= .string ⟨(S65++(anL.take k).flatMap dS).toArray⟩/\Below W0.heap.size W0 wr) (fun _ i _=>anL.length - (intOf i).toNat)
 case atStart=>exact⟨0,nz _,rfl,by simp,yM.out⟩
 case round=>
  obtain⟨abT,rfl⟩:∃x,x=wr:=⟨_,rfl⟩
  obtain⟨k,hk,rfl,rfl,hb⟩:=hrel;have HX:=hd0 hb;have c1:abT.cell? ⟨w.heap.size,1,none⟩=some (.slice A1 anL.length d1):=((af HX.out).1 _ _ z0).trans (HK.out.cell 1);by_cases hlt:k<anL.length
  ·
   obtain⟨b,o,x,B3,e3,B4,e4,B5,e5,B6,e6,B7,e7,B8,e8,rfl,-,hx,q0,q1,q2,q3,q4,q5,q6,q7,q8,i1,h3,h4,h5,h6,h7,h8⟩:=(H1.out.lw anS.ok hb).anX hlt;have hsn:Hid (S65++(anL.take (k+1)).flatMap dS=S65++(anL.take k).flatMap dS++dS x):=by show _=_;rw[bg hx.out];simp
   have hf:=bJ (f:=dS) hx.out;have hs0:(S65++(anL.take k).flatMap dS).length<=S65.length+((anL.take k).flatMap dS).length:=ax _ _;have HA:=hd0 (Yg abT x B3 B4 B5 B6 B7 B8 e3 e4 e5 e6 e7 e8 i1 h3 h4 h5 h6 h7 h8 (by omega));generalize S65++(anL.take k).flatMap dS=S68 at*
   generalize dS x=D9 at*
   have anq:∀w',(Op.stringOp .add ⟨S68.toArray⟩ ⟨D9.toArray⟩).run Tryz.prog w'= .ok (.string ⟨(S68++D9).toArray⟩) w':=au S68 D9 (by omega);have amr:(S68++D9).length<=S68.length+D9.length:=ax _ _;generalize hS69:S68++D9=S69 at*
   have akj:=hd0 hS69.symm;clear hS69;clear hx hf hs0 hb;go_wp2_with fail
   refine HA.out.mono ?_;rintro e wz ⟨rfl,hbz⟩;have dY:Hid (Below W0.heap.size W0 wz):=hd0 (HX.out.trans (hbz.mono HX.out.size));clear hbz HA;go_wp2_with fail
   go_roundw
   case rel=>exact⟨k+1,by omega,by simp,by rw[hsn.out,akj.out],dY.out⟩
   case measure=>simp[intOf];omega
  obtain rfl:k=anL.length:=by omega
  rw[aqr];have amP:(S65++anL.flatMap dS).length<=S65.length+(anL.flatMap dS).length:=ax _ _;generalize hS70:S65++anL.flatMap dS=S70 at*
  have aiB:=hd0 hS70.symm;clear hS70;have c2:abT.cell? ⟨w.heap.size,2,none⟩=some (.slice A2 chars.length d2):=((af HX.out).1 _ _ z0).trans (HK.out.cell 2);have amQ:∀w',(Op.stringOp .add ⟨S70.toArray⟩ ⟨D2.toArray⟩).run Tryz.prog w'= .ok (.string ⟨(S70++D2).toArray⟩) w':=au S70 D2 (by omega);have am5:(S70++D2).length<=S70.length+D2.length:=ax _ _;generalize hS71:S70++D2=S71 at*
  have akS:=hd0 hS71.symm;clear hS71;go_wp2_with fail
  refine(HD2.out _).mono ?_;rintro e ajt ⟨rfl,hbd⟩;have ahu:Hid (Below W0.heap.size W0 ajt):=hd0 (HX.out.trans (hbd.mono HX.out.size));clear hbd c2 HX hb;go_wp2_with fail
  go_loopw [3,5] (fun s i wr=>∃k:Nat,k<=chars.length/\i= .int .i64 k/\s= .string ⟨(S71++(chars.take k).flatMap jZ).toArray⟩/\Below W0.heap.size W0 wr) (fun _ i _=>chars.length - (intOf i).toNat)
  case atStart=>exact⟨0,nz _,rfl,by simp,ahu.out⟩
  case round=>
   obtain⟨nM,rfl⟩:∃x,x=wr:=⟨_,rfl⟩
   obtain⟨k,hk,rfl,rfl,hb⟩:=hrel;have HX:=hd0 hb;have c2:nM.cell? ⟨w.heap.size,2,none⟩=some (.slice A2 chars.length d2):=((af HX.out).1 _ _ z0).trans (HK.out.cell 2);by_cases hlt:k<chars.length
   ·
    obtain⟨b,o,x,rfl,-,hx,q0,q1,i0,i1⟩:=(H2.out.lw aop.ok hb).chr hlt;have hsn:Hid (S71++(chars.take (k+1)).flatMap jZ=S71++(chars.take k).flatMap jZ++ai x.rune++ai x.anX):=by show _=_;rw[bg hx.out];simp[jZ]
    have hf:=bJ (f:=jZ) hx.out;simp only[jZ,az,ay,ln] at hf;have hs0:(S71++(chars.take k).flatMap jZ).length<=S71.length+((chars.take k).flatMap jZ).length:=ax _ _;clear hx;have xc:∀xw:WIn (fun v=>Below nM.heap.size nM v),xw.w.cell? ⟨w.heap.size,2,none⟩=some (.slice (some ⟨b,o,none⟩) chars.length d2):=ae c2;have xq0:∀xw:WIn (fun v=>Below nM.heap.size nM v),xw.w.cell? ⟨b,o+k*2,none⟩=some (.int .i64 x.rune):=ae q0;have xq1:∀xw:WIn (fun v=>Below nM.heap.size nM v),xw.w.cell? ⟨b,o+k*2+1,none⟩=some (.int .i64 x.anX):=ae q1;have jL:=hd0 (aj (W:=nM) (fun w' _=>aG w' (x.rune) i0));have HA1:=hd0 (aj (W:=nM) (fun w' _=>aG w' (x.anX) i1));generalize S71++(chars.take k).flatMap jZ=S75 at*
    generalize ai x.rune=D0 at*
    generalize ai x.anX=D1 at*
    have am2:∀w',(Op.stringOp .add ⟨S75.toArray⟩ ⟨D0.toArray⟩).run Tryz.prog w'= .ok (.string ⟨(S75++D0).toArray⟩) w':=au S75 D0 (by omega);have amh:(S75++D0).length<=S75.length+D0.length:=ax _ _;generalize hS76:S75++D0=S76 at*
    have akQ:=hd0 hS76.symm;clear hS76;have alN:∀w',(Op.stringOp .add ⟨S76.toArray⟩ ⟨D1.toArray⟩).run Tryz.prog w'= .ok (.string ⟨(S76++D1).toArray⟩) w':=au S76 D1 (by omega);have amB:(S76++D1).length<=S76.length+D1.length:=ax _ _;generalize hS77:S76++D1=S77 at*
    have ajX:=hd0 hS77.symm;clear hS77;clear hf hs0 hb q0 q1;go_wp2_with fail
    refine aW (fun v=>Below nM.heap.size nM v) (by kernel_rfl) (by kernel_rfl) ((aqk nM.heap.size nM).drew) ?_;have aU:Nonempty (WIn (fun v=>Below nM.heap.size nM v)):=⟨⟨_,((aqk nM.heap.size nM).drew)⟩⟩
    repeat(go_big_quiet_step (first|with_reducible exact jL.out _|with_reducible exact HA1.out _))
    refine wpQuiet_nil ?_;intro _ hw';obtain⟨xq,hw''⟩:=hw';subst hw'';have dY:Hid (Below W0.heap.size W0 xq.w):=hd0 (HX.out.trans (xq.ok.mono HX.out.size));generalize xq.w=wz at*
    go_wp2_with fail
    go_roundw
    case rel=>exact⟨k+1,by omega,by simp,by rw[hsn.out,ajX.out,akQ.out],dY.out⟩
    case measure=>simp[intOf];omega
   obtain rfl:k=chars.length:=by omega
   rw[aqr];have amK:(S71++chars.flatMap jZ).length<=S71.length+(chars.flatMap jZ).length:=ax _ _;generalize hS78:S71++chars.flatMap jZ=S78 at*
   have ajr:=hd0 hS78.symm;clear hS78;have c3:nM.cell? ⟨w.heap.size,3,none⟩=some (.slice A3 anM.length d3):=((af HX.out).1 _ _ z0).trans (HK.out.cell 3);have amM:∀w',(Op.stringOp .add ⟨S78.toArray⟩ ⟨D3.toArray⟩).run Tryz.prog w'= .ok (.string ⟨(S78++D3).toArray⟩) w':=au S78 D3 (by omega);have anm:(S78++D3).length<=S78.length+D3.length:=ax _ _;generalize hS79:S78++D3=S79 at*
   have akD:=hd0 hS79.symm;clear hS79;go_wp2_with fail
   refine(HD3.out _).mono ?_;rintro e ake ⟨rfl,hbd⟩;have ag4:Hid (Below W0.heap.size W0 ake):=hd0 (HX.out.trans (hbd.mono HX.out.size));clear hbd c3 HX hb;go_wp2_with fail
   go_loopw [3,6] (fun s i wr=>∃k:Nat,k<=anM.length/\i= .int .i64 k/\s= .string ⟨(S79++(anM.take k).flatMap fP).toArray⟩/\Below W0.heap.size W0 wr) (fun _ i _=>anM.length - (intOf i).toNat)
   case atStart=>exact⟨0,nz _,rfl,by simp,ag4.out⟩
   case round=>
    obtain⟨abd,rfl⟩:∃x,x=wr:=⟨_,rfl⟩
    obtain⟨k,hk,rfl,rfl,hb⟩:=hrel;have HX:=hd0 hb;have c3:abd.cell? ⟨w.heap.size,3,none⟩=some (.slice A3 anM.length d3):=((af HX.out).1 _ _ z0).trans (HK.out.cell 3);by_cases hlt:k<anM.length
    ·
     obtain⟨b,o,x,B2,e2,rfl,-,hx,q0,q1,q2,i0,h0⟩:=(H3.out.lw anV.ok hb).lookup hlt;have hsn:Hid (S79++(anM.take (k+1)).flatMap fP=S79++(anM.take k).flatMap fP++fP x):=by show _=_;rw[bg hx.out];simp
     have hf:=bJ (f:=fP) hx.out;have hs0:(S79++(anM.take k).flatMap fP).length<=S79.length+((anM.take k).flatMap fP).length:=ax _ _;have HA:=hd0 (VZ abd x B2 e2 i0 h0 (by omega));generalize S79++(anM.take k).flatMap fP=S83 at*
     generalize fP x=D9 at*
     have ami:∀w',(Op.stringOp .add ⟨S83.toArray⟩ ⟨D9.toArray⟩).run Tryz.prog w'= .ok (.string ⟨(S83++D9).toArray⟩) w':=au S83 D9 (by omega);have ams:(S83++D9).length<=S83.length+D9.length:=ax _ _;generalize hS84:S83++D9=S84 at*
     have ai9:=hd0 hS84.symm;clear hS84;clear hx hf hs0 hb;go_wp2_with fail
     refine HA.out.mono ?_;rintro e wz ⟨rfl,hbz⟩;have dY:Hid (Below W0.heap.size W0 wz):=hd0 (HX.out.trans (hbz.mono HX.out.size));clear hbz HA;go_wp2_with fail
     go_roundw
     case rel=>exact⟨k+1,by omega,by simp,by rw[hsn.out,ai9.out],dY.out⟩
     case measure=>simp[intOf];omega
    obtain rfl:k=anM.length:=by omega
    rw[aqr];have al1:(S79++anM.flatMap fP).length<=S79.length+(anM.flatMap fP).length:=ax _ _;generalize hS85:S79++anM.flatMap fP=S85 at*
    have ait:=hd0 hS85.symm;clear hS85;have c4:abd.cell? ⟨w.heap.size,4,none⟩=some (.slice A4 an3.length d4):=((af HX.out).1 _ _ z0).trans (HK.out.cell 4);have amU:∀w',(Op.stringOp .add ⟨S85.toArray⟩ ⟨D4.toArray⟩).run Tryz.prog w'= .ok (.string ⟨(S85++D4).toArray⟩) w':=au S85 D4 (by omega);have amn:(S85++D4).length<=S85.length+D4.length:=ax _ _;generalize hS86:S85++D4=S86 at*
    have aiQ:=hd0 hS86.symm;clear hS86;go_wp2_with fail
    refine(HD4.out _).mono ?_;rintro e akv ⟨rfl,hbd⟩;have ahs:Hid (Below W0.heap.size W0 akv):=hd0 (HX.out.trans (hbd.mono HX.out.size));clear hbd c4 HX hb;go_wp2_with fail
    go_loopw [3,7] (fun s i wr=>∃k:Nat,k<=an3.length/\i= .int .i64 k/\s= .string ⟨(S86++(an3.take k).flatMap iL).toArray⟩/\Below W0.heap.size W0 wr) (fun _ i _=>an3.length - (intOf i).toNat)
    case atStart=>exact⟨0,nz _,rfl,by simp,ahs.out⟩
    case round=>
     obtain⟨nO,rfl⟩:∃x,x=wr:=⟨_,rfl⟩
     obtain⟨k,hk,rfl,rfl,hb⟩:=hrel;have HX:=hd0 hb;have c4:nO.cell? ⟨w.heap.size,4,none⟩=some (.slice A4 an3.length d4):=((af HX.out).1 _ _ z0).trans (HK.out.cell 4);by_cases hlt:k<an3.length
     ·
      obtain⟨b,o,x,B1,e1,rfl,-,hx,q0,q1,h0⟩:=(H4.out.lw anU.ok hb).apk hlt;have hsn:Hid (S86++(an3.take (k+1)).flatMap iL=S86++(an3.take k).flatMap iL++ai (x.name.length:Int)++x.name++[32]++rowB x.anM):=by show _=_;rw[bg hx.out];simp[iL,oN]
      have hf:=bJ (f:=iL) hx.out;simp only[iL,oN,az,ay,ln] at hf;have hs0:(S86++(an3.take k).flatMap iL).length<=S86.length+((an3.take k).flatMap iL).length:=ax _ _;clear hx;have xc:∀xw:WIn (fun v=>Below nO.heap.size nO v),xw.w.cell? ⟨w.heap.size,4,none⟩=some (.slice (some ⟨b,o,none⟩) an3.length d4):=ae c4;have xq0:∀xw:WIn (fun v=>Below nO.heap.size nO v),xw.w.cell? ⟨b,o+k*2,none⟩=some (.string ⟨x.name.toArray⟩):=ae q0;have xq1:∀xw:WIn (fun v=>Below nO.heap.size nO v),xw.w.cell? ⟨b,o+k*2+1,none⟩=some (.slice B1 x.anM.length e1):=ae q1;have QC:I64 (x.name.length:Int):=⟨by omega,by omega⟩
      have jL:=hd0 (aj (W:=nO) (fun w' _=>aG w' (x.name.length) QC));clear QC;have HA1:=hd0 (aj (W:=nO) (fun w' hw'=>yJ w' B1 e1 x.anM (h0.lw anO.ok hw') (by omega)));generalize S86++(an3.take k).flatMap iL=S90 at*
      generalize ai (x.name.length:Int)=D0 at*
      generalize rowB x.anM=D1 at*
      have alW:∀w',(Op.stringOp .add ⟨S90.toArray⟩ ⟨D0.toArray⟩).run Tryz.prog w'= .ok (.string ⟨(S90++D0).toArray⟩) w':=au S90 D0 (by omega);have anu:(S90++D0).length<=S90.length+D0.length:=ax _ _;generalize hS91:S90++D0=S91 at*
      have ajA:=hd0 hS91.symm;clear hS91;have alY:∀w',(Op.stringOp .add ⟨S91.toArray⟩ ⟨x.name.toArray⟩).run Tryz.prog w'= .ok (.string ⟨(S91++x.name).toArray⟩) w':=au S91 x.name (by omega);have amx:(S91++x.name).length<=S91.length+x.name.length:=ax _ _;generalize hS92:S91++x.name=S92 at*
      have ajg:=hd0 hS92.symm;clear hS92;have amz:∀w',(Op.stringOp .add ⟨S92.toArray⟩ ⟨#[32]⟩).run Tryz.prog w'= .ok (.string ⟨(S92++[32]).toArray⟩) w':=au S92 [32] (by simp only[ay,ln];omega);have ame:(S92++[32]).length<=S92.length+1:=ax _ _;generalize hS93:S92++[32]=S93 at*
      have aku:=hd0 hS93.symm;clear hS93;have amH:∀w',(Op.stringOp .add ⟨S93.toArray⟩ ⟨D1.toArray⟩).run Tryz.prog w'= .ok (.string ⟨(S93++D1).toArray⟩) w':=au S93 D1 (by omega);have amg:(S93++D1).length<=S93.length+D1.length:=ax _ _;generalize hS94:S93++D1=S94 at*
      have aiF:=hd0 hS94.symm;clear hS94;clear hf hs0 hb q0 q1;go_wp2_with fail
      refine aW (fun v=>Below nO.heap.size nO v) (by kernel_rfl) (by kernel_rfl) ((aqk nO.heap.size nO).drew) ?_;have aU:Nonempty (WIn (fun v=>Below nO.heap.size nO v)):=⟨⟨_,((aqk nO.heap.size nO).drew)⟩⟩
      repeat(go_big_quiet_step (first|with_reducible exact jL.out _|with_reducible exact HA1.out _))
      refine wpQuiet_nil ?_;intro _ hw';obtain⟨xq,hw''⟩:=hw';subst hw'';have dY:Hid (Below W0.heap.size W0 xq.w):=hd0 (HX.out.trans (xq.ok.mono HX.out.size));generalize xq.w=wz at*
      go_wp2_with fail
      go_roundw
      case rel=>exact⟨k+1,by omega,by simp,by rw[hsn.out,aiF.out,aku.out,ajg.out,ajA.out],dY.out⟩
      case measure=>simp[intOf];omega
     obtain rfl:k=an3.length:=by omega
     rw[aqr];have anH:(S86++an3.flatMap iL).length<=S86.length+(an3.flatMap iL).length:=ax _ _;generalize hS95:S86++an3.flatMap iL=S95 at*
     have aic:=hd0 hS95.symm;clear hS95;have c5:nO.cell? ⟨w.heap.size,5,none⟩=some (.slice A5 anR.length d5):=((af HX.out).1 _ _ z0).trans (HK.out.cell 5);have amC:∀w',(Op.stringOp .add ⟨S95.toArray⟩ ⟨D5.toArray⟩).run Tryz.prog w'= .ok (.string ⟨(S95++D5).toArray⟩) w':=au S95 D5 (by omega);have alJ:(S95++D5).length<=S95.length+D5.length:=ax _ _;generalize hS96:S95++D5=S96 at*
     have ajU:=hd0 hS96.symm;clear hS96;go_wp2_with fail
     refine(HD5.out _).mono ?_;rintro e ajB ⟨rfl,hbd⟩;have ahQ:Hid (Below W0.heap.size W0 ajB):=hd0 (HX.out.trans (hbd.mono HX.out.size));clear hbd c5 HX hb;go_wp2_with fail
     go_loopw [3,8] (fun s i wr=>∃k:Nat,k<=anR.length/\i= .int .i64 k/\s= .string ⟨(S96++(anR.take k).flatMap iM).toArray⟩/\Below W0.heap.size W0 wr) (fun _ i _=>anR.length - (intOf i).toNat)
     case atStart=>exact⟨0,nz _,rfl,by simp,ahQ.out⟩
     case round=>
      obtain⟨CY,rfl⟩:∃x,x=wr:=⟨_,rfl⟩
      obtain⟨k,hk,rfl,rfl,hb⟩:=hrel;have HX:=hd0 hb;have c5:CY.cell? ⟨w.heap.size,5,none⟩=some (.slice A5 anR.length d5):=((af HX.out).1 _ _ z0).trans (HK.out.cell 5);by_cases hlt:k<anR.length
      ·
       obtain⟨b,o,x,rfl,-,hx,q0,q1,q2,q3,i1,i2,i3⟩:=(H5.out.lw aoh.ok hb).apZ hlt;have hsn:Hid (S96++(anR.take (k+1)).flatMap iM=S96++(anR.take k).flatMap iM++ai (x.name.length:Int)++x.name++[32]++ai x.min'++ai x.aou++ai x.max'):=by show _=_;rw[bg hx.out];simp[iM,oN]
       have hf:=bJ (f:=iM) hx.out;simp only[iM,oN,az,ay,ln] at hf;have hs0:(S96++(anR.take k).flatMap iM).length<=S96.length+((anR.take k).flatMap iM).length:=ax _ _;clear hx hb;go_wp2_with fail
       obtain⟨kw,hW2⟩:∃W2,CY.alloc (.cells #[.string ⟨x.name.toArray⟩,.int .i64 x.min',.int .i64 x.aou,.int .i64 x.max'] 99)=W2:=⟨_,rfl⟩
       rw[hW2];have acP:Hid (Below W0.heap.size W0 kw):=by rw[<-hW2];exact hd0 (HX.out.alloc HX.out.size _)
       have b2:Bk kw CY.heap.size 99 #[.string ⟨x.name.toArray⟩,.int .i64 x.min',.int .i64 x.aou,.int .i64 x.max']:=by rw[<-hW2];exact Bk.new _ _ _
       clear hW2;have x0:∀xw:WIn (fun v=>Below kw.heap.size kw v),xw.w.cell? ⟨CY.heap.size,0,none⟩=some (.string ⟨x.name.toArray⟩):=ae (b2.cell 0);have x1:∀xw:WIn (fun v=>Below kw.heap.size kw v),xw.w.cell? ⟨CY.heap.size,1,none⟩=some (.int .i64 x.min'):=ae (b2.cell 1);have x2:∀xw:WIn (fun v=>Below kw.heap.size kw v),xw.w.cell? ⟨CY.heap.size,2,none⟩=some (.int .i64 x.aou):=ae (b2.cell 2);have x3:∀xw:WIn (fun v=>Below kw.heap.size kw v),xw.w.cell? ⟨CY.heap.size,3,none⟩=some (.int .i64 x.max'):=ae (b2.cell 3);clear b2;have QC:I64 (x.name.length:Int):=⟨by omega,by omega⟩
       have jL:=hd0 (aj (W:=kw) (fun w' _=>aG w' (x.name.length) QC));clear QC;have HA1:=hd0 (aj (W:=kw) (fun w' _=>aG w' (x.min') i1));have HA2:=hd0 (aj (W:=kw) (fun w' _=>aG w' (x.aou) i2));have uX:=hd0 (aj (W:=kw) (fun w' _=>aG w' (x.max') i3));generalize S96++(anR.take k).flatMap iM=S101 at*
       generalize ai (x.name.length:Int)=D0 at*
       generalize ai x.min'=D1 at*
       generalize ai x.aou=D2 at*
       generalize ai x.max'=D3 at*
       have ak7:∀w',(Op.stringOp .add ⟨S101.toArray⟩ ⟨D0.toArray⟩).run Tryz.prog w'= .ok (.string ⟨(S101++D0).toArray⟩) w':=au S101 D0 (by omega);have alo:(S101++D0).length<=S101.length+D0.length:=ax _ _;generalize hS102:S101++D0=S102 at*
       have agV:=hd0 hS102.symm;clear hS102;have alf:∀w',(Op.stringOp .add ⟨S102.toArray⟩ ⟨x.name.toArray⟩).run Tryz.prog w'= .ok (.string ⟨(S102++x.name).toArray⟩) w':=au S102 x.name (by omega);have akY:(S102++x.name).length<=S102.length+x.name.length:=ax _ _;generalize hS103:S102++x.name=S103 at*
       have ah8:=hd0 hS103.symm;clear hS103;have alq:∀w',(Op.stringOp .add ⟨S103.toArray⟩ ⟨#[32]⟩).run Tryz.prog w'= .ok (.string ⟨(S103++[32]).toArray⟩) w':=au S103 [32] (by simp only[ay,ln];omega);have ak3:(S103++[32]).length<=S103.length+1:=ax _ _;generalize hS104:S103++[32]=S104 at*
       have ahZ:=hd0 hS104.symm;clear hS104;have alE:∀w',(Op.stringOp .add ⟨S104.toArray⟩ ⟨D1.toArray⟩).run Tryz.prog w'= .ok (.string ⟨(S104++D1).toArray⟩) w':=au S104 D1 (by omega);have ak0:(S104++D1).length<=S104.length+D1.length:=ax _ _;generalize hS105:S104++D1=S105 at*
       have ag0:=hd0 hS105.symm;clear hS105;have alb:∀w',(Op.stringOp .add ⟨S105.toArray⟩ ⟨D2.toArray⟩).run Tryz.prog w'= .ok (.string ⟨(S105++D2).toArray⟩) w':=au S105 D2 (by omega);have als:(S105++D2).length<=S105.length+D2.length:=ax _ _;generalize hS106:S105++D2=S106 at*
       have ahe:=hd0 hS106.symm;clear hS106;have alh:∀w',(Op.stringOp .add ⟨S106.toArray⟩ ⟨D3.toArray⟩).run Tryz.prog w'= .ok (.string ⟨(S106++D3).toArray⟩) w':=au S106 D3 (by omega);have akZ:(S106++D3).length<=S106.length+D3.length:=ax _ _;generalize hS107:S106++D3=S107 at*
       have ahJ:=hd0 hS107.symm;clear hS107;clear hf hs0;refine aW (fun v=>Below kw.heap.size kw v) (by kernel_rfl) (by kernel_rfl) ((aqk kw.heap.size kw).drew) ?_;have aU:Nonempty (WIn (fun v=>Below kw.heap.size kw v)):=⟨⟨_,((aqk kw.heap.size kw).drew)⟩⟩
       repeat(go_big_quiet_step (first|with_reducible exact jL.out _|with_reducible exact HA1.out _|with_reducible exact HA2.out _|with_reducible exact uX.out _))
       refine wpQuiet_nil ?_;intro _ hw';obtain⟨xq,hw''⟩:=hw';subst hw'';have dY:Hid (Below W0.heap.size W0 xq.w):=hd0 (acP.out.trans (xq.ok.mono acP.out.size));generalize xq.w=wz at*
       go_wp2_with fail
       go_roundw
       case rel=>exact⟨k+1,by omega,by simp,by rw[hsn.out,ahJ.out,ahe.out,ag0.out,ahZ.out,ah8.out,agV.out],dY.out⟩
       case measure=>simp[intOf];omega
      obtain rfl:k=anR.length:=by omega
      rw[aqr];have alA:(S96++anR.flatMap iM).length<=S96.length+(anR.flatMap iM).length:=ax _ _;generalize hS108:S96++anR.flatMap iM=S108 at*
      have ahx:=hd0 hS108.symm;clear hS108;have c6:CY.cell? ⟨w.heap.size,6,none⟩=some (.slice A6 regs.length d6):=((af HX.out).1 _ _ z0).trans (HK.out.cell 6);have ale:∀w',(Op.stringOp .add ⟨S108.toArray⟩ ⟨D6.toArray⟩).run Tryz.prog w'= .ok (.string ⟨(S108++D6).toArray⟩) w':=au S108 D6 (by omega);have ald:(S108++D6).length<=S108.length+D6.length:=ax _ _;generalize hS109:S108++D6=S109 at*
      have ah7:=hd0 hS109.symm;clear hS109;go_wp2_with fail
      refine(HD6.out _).mono ?_;rintro e ahE ⟨rfl,hbd⟩;have af7:Hid (Below W0.heap.size W0 ahE):=hd0 (HX.out.trans (hbd.mono HX.out.size));clear hbd c6 HX hb;go_wp2_with fail
      go_loopw [3,10] (fun s i wr=>∃k:Nat,k<=regs.length/\i= .int .i64 k/\s= .string ⟨(S109++(regs.take k).flatMap lF).toArray⟩/\Below W0.heap.size W0 wr) (fun _ i _=>regs.length - (intOf i).toNat)
      case atStart=>exact⟨0,nz _,rfl,by simp,af7.out⟩
      case round=>
       obtain⟨uu,rfl⟩:∃x,x=wr:=⟨_,rfl⟩
       obtain⟨k,hk,rfl,rfl,hb⟩:=hrel;have HX:=hd0 hb;have c6:uu.cell? ⟨w.heap.size,6,none⟩=some (.slice A6 regs.length d6):=((af HX.out).1 _ _ z0).trans (HK.out.cell 6);by_cases hlt:k<regs.length
       ·
        obtain⟨b,o,x,B0,e0,rfl,-,hx,q0,h0⟩:=(H6.out.lw anY.ok hb).region hlt;have hsn:Hid (S109++(regs.take (k+1)).flatMap lF=S109++(regs.take k).flatMap lF++ai (x.anT.length:Int)++x.anT.flatMap jl):=by show _=_;rw[bg hx.out];simp[lF,Dp]
        have hf:=bJ (f:=lF) hx.out;simp only[lF,Dp,az] at hf;have hs0:(S109++(regs.take k).flatMap lF).length<=S109.length+((regs.take k).flatMap lF).length:=ax _ _;have n9:I64 (x.anT.length:Int):=kV jl Ll x.anT (by omega);have ln9:x.anT.length<=100000000000000:=nt (eY jl Ll x.anT) (by omega);have K0:=hd0 h0;have HA:=hd0 (fun w'=>aG w' _ n9);clear n9;generalize S109++(regs.take k).flatMap lF=S113 at*
        generalize ai (x.anT.length:Int)=E0 at*
        have ak5:∀w',(Op.stringOp .add ⟨S113.toArray⟩ ⟨E0.toArray⟩).run Tryz.prog w'= .ok (.string ⟨(S113++E0).toArray⟩) w':=au S113 E0 (by omega);have alx:(S113++E0).length<=S113.length+E0.length:=ax _ _;generalize hS114:S113++E0=S114 at*
        have ag2:=hd0 hS114.symm;clear hS114;have zb:=World.block_lt_of_cell? _ _ q0;clear hx hb;go_wp2_with fail
        refine(HA.out _).mono ?_;rintro e wb ⟨rfl,hbb⟩;have XH:=hd0 hbb;clear hbb HA;go_wp2_with fail
        go_loopw [3,11] (fun s i wr=>∃j:Nat,j<=x.anT.length/\i= .int .i64 j/\s= .string ⟨(S114++(x.anT.take j).flatMap jl).toArray⟩/\Below uu.heap.size uu wr) (fun _ i _=>x.anT.length - (intOf i).toNat)
        case atStart=>exact⟨0,nz _,rfl,by simp,XH.out⟩
        case round=>
         obtain⟨wi,rfl⟩:∃x,x=wr:=⟨_,rfl⟩
         obtain⟨j,hj,rfl,rfl,hb⟩:=hrel;have fQ:Hid (Below uu.heap.size uu wi):=hd0 hb;have HXw:Hid (Below W0.heap.size W0 wi):=hd0 (HX.out.trans (hb.mono HX.out.size));have c6i:wi.cell? ⟨w.heap.size,6,none⟩=some (.slice (some ⟨b,o,none⟩) regs.length d6):=((af HXw.out).1 _ _ z0).trans (HK.out.cell 6);have q0i:wi.cell? ⟨b,o+k,none⟩=some (.slice B0 x.anT.length e0):=((af fQ.out).1 _ _ zb).trans q0;by_cases hltj:j<x.anT.length
         ·
          obtain⟨b2,o2,y,rfl,-,hy,u0,u1,u2,j0,j1,j2⟩:=(K0.out.lw aoL.ok hb).ap0 hltj;have sK:Hid (S114++(x.anT.take (j+1)).flatMap jl=S114++(x.anT.take j).flatMap jl++ai y.start++ai y.peak++ai y.stop):=by show _=_;rw[bg hy.out];simp[jl]
          have hf2:=bJ (f:=jl) hy.out;simp only[jl,az] at hf2;have hs2:(S114++(x.anT.take j).flatMap jl).length<=S114.length+((x.anT.take j).flatMap jl).length:=ax _ _;clear hy;go_wp2_with fail
          obtain⟨W2,hW2⟩:∃W2,wi.alloc (.cells #[.int .i64 y.start,.int .i64 y.peak,.int .i64 y.stop] 101)=W2:=⟨_,rfl⟩
          rw[hW2];have HW2:Hid (Below uu.heap.size uu W2):=by rw[<-hW2];exact hd0 (fQ.out.alloc fQ.out.size _)
          have b3:Bk W2 wi.heap.size 101 #[.int .i64 y.start,.int .i64 y.peak,.int .i64 y.stop]:=by rw[<-hW2];exact Bk.new _ _ _
          clear hW2;have x0:∀xw:WIn (fun v=>Below W2.heap.size W2 v),xw.w.cell? ⟨wi.heap.size,0,none⟩=some (.int .i64 y.start):=ae (b3.cell 0);have x1:∀xw:WIn (fun v=>Below W2.heap.size W2 v),xw.w.cell? ⟨wi.heap.size,1,none⟩=some (.int .i64 y.peak):=ae (b3.cell 1);have x2:∀xw:WIn (fun v=>Below W2.heap.size W2 v),xw.w.cell? ⟨wi.heap.size,2,none⟩=some (.int .i64 y.stop):=ae (b3.cell 2);have HB0:=hd0 (aj (W:=W2) (fun w' _=>aG w' (y.start) j0));have HB1:=hd0 (aj (W:=W2) (fun w' _=>aG w' (y.peak) j1));have HB2:=hd0 (aj (W:=W2) (fun w' _=>aG w' (y.stop) j2));generalize S114++(x.anT.take j).flatMap jl=S115 at*
          generalize ai y.start=G0 at*
          generalize ai y.peak=G1 at*
          generalize ai y.stop=G2 at*
          have alj:∀w',(Op.stringOp .add ⟨S115.toArray⟩ ⟨G0.toArray⟩).run Tryz.prog w'= .ok (.string ⟨(S115++G0).toArray⟩) w':=au S115 G0 (by omega);have aly:(S115++G0).length<=S115.length+G0.length:=ax _ _;generalize hS116:S115++G0=S116 at*
          have ahT:=hd0 hS116.symm;clear hS116;have akX:∀w',(Op.stringOp .add ⟨S116.toArray⟩ ⟨G1.toArray⟩).run Tryz.prog w'= .ok (.string ⟨(S116++G1).toArray⟩) w':=au S116 G1 (by omega);have alg:(S116++G1).length<=S116.length+G1.length:=ax _ _;generalize hS117:S116++G1=S117 at*
          have ah3:=hd0 hS117.symm;clear hS117;have ak2:∀w',(Op.stringOp .add ⟨S117.toArray⟩ ⟨G2.toArray⟩).run Tryz.prog w'= .ok (.string ⟨(S117++G2).toArray⟩) w':=au S117 G2 (by omega);have ali:(S117++G2).length<=S117.length+G2.length:=ax _ _;generalize hS118:S117++G2=S118 at*
          have ahn:=hd0 hS118.symm;clear hS118;clear b3 hf2 hs2 hb u0 u1 u2 j0 j1 j2;refine aW (fun v=>Below W2.heap.size W2 v) (by kernel_rfl) (by kernel_rfl) ((aqk W2.heap.size W2).drew) ?_;have aU:Nonempty (WIn (fun v=>Below W2.heap.size W2 v)):=⟨⟨_,((aqk W2.heap.size W2).drew)⟩⟩
          repeat(go_big_quiet_step (first|with_reducible exact HB0.out _|with_reducible exact HB1.out _|with_reducible exact HB2.out _))
          refine wpQuiet_nil ?_;intro _ hw';obtain⟨xq,hw''⟩:=hw';subst hw'';have dY:Hid (Below uu.heap.size uu xq.w):=hd0 (HW2.out.trans (xq.ok.mono HW2.out.size));generalize xq.w=wz at*
          go_wp2_with fail
          go_roundw
          case rel=>exact⟨j+1,by omega,by simp,by rw[sK.out,ahn.out,ah3.out,ahT.out],dY.out⟩
          case measure=>simp[intOf];omega
         obtain rfl:j=x.anT.length:=by omega
         rw[aqr];generalize hS119:S114++x.anT.flatMap jl=S119 at*
         have ahj:=hd0 hS119.symm;clear hS119 hb hf hs0;go_wp2_with fail
         go_roundw
         case rel=>exact⟨k+1,by omega,by simp,by rw[hsn.out,ahj.out,ag2.out],HXw.out⟩
         case measure=>simp[intOf];omega
       obtain rfl:k=regs.length:=by omega
       rw[aqr];have ak6:(S109++regs.flatMap lF).length<=S109.length+(regs.flatMap lF).length:=ax _ _;generalize hS120:S109++regs.flatMap lF=S120 at*
       have ahN:=hd0 hS120.symm;clear hS120;have c7:uu.cell? ⟨w.heap.size,7,none⟩=some (.slice A7 funcs.length d7):=((af HX.out).1 _ _ z0).trans (HK.out.cell 7);have alC:∀w',(Op.stringOp .add ⟨S120.toArray⟩ ⟨D7.toArray⟩).run Tryz.prog w'= .ok (.string ⟨(S120++D7).toArray⟩) w':=au S120 D7 (by omega);have alG:(S120++D7).length<=S120.length+D7.length:=ax _ _;generalize hS121:S120++D7=S121 at*
       have ah9:=hd0 hS121.symm;clear hS121;go_wp2_with fail
       refine(HD7.out _).mono ?_;rintro e ag1 ⟨rfl,hbd⟩;have agF:Hid (Below W0.heap.size W0 ag1):=hd0 (HX.out.trans (hbd.mono HX.out.size));clear hbd c7 HX hb;go_wp2_with fail
       go_loopw [3,13] (fun s i wr=>∃k:Nat,k<=funcs.length/\i= .int .i64 k/\s= .string ⟨(S121++(funcs.take k).flatMap eU).toArray⟩/\Below W0.heap.size W0 wr) (fun _ i _=>funcs.length - (intOf i).toNat)
       case atStart=>exact⟨0,nz _,rfl,by simp,agF.out⟩
       case round=>
        obtain⟨Va,rfl⟩:∃x,x=wr:=⟨_,rfl⟩
        obtain⟨k,hk,rfl,rfl,hb⟩:=hrel;have HX:=hd0 hb;have c7:Va.cell? ⟨w.heap.size,7,none⟩=some (.slice A7 funcs.length d7):=((af HX.out).1 _ _ z0).trans (HK.out.cell 7);by_cases hlt:k<funcs.length
        ·
         obtain⟨b,o,x,B1,e1,rfl,-,hx,q0,h0⟩:=(H7.out.lw aod.ok hb).code hlt;have hsn:Hid (S121++(funcs.take (k+1)).flatMap eU=S121++(funcs.take k).flatMap eU++eU x):=by show _=_;rw[bg hx.out];simp
         have hf:=bJ (f:=eU) hx.out;have hs0:(S121++(funcs.take k).flatMap eU).length<=S121.length+((funcs.take k).flatMap eU).length:=ax _ _;have HA:=hd0 (Pn Va B1 e1 x h0 (by omega));generalize S121++(funcs.take k).flatMap eU=S125 at*
         generalize eU x=D9 at*
         have aln:∀w',(Op.stringOp .add ⟨S125.toArray⟩ ⟨D9.toArray⟩).run Tryz.prog w'= .ok (.string ⟨(S125++D9).toArray⟩) w':=au S125 D9 (by omega);have ak9:(S125++D9).length<=S125.length+D9.length:=ax _ _;generalize hS126:S125++D9=S126 at*
         have ahy:=hd0 hS126.symm;clear hS126;clear hx hf hs0 hb;go_wp2_with fail
         refine HA.out.mono ?_;rintro e wz ⟨rfl,hbz⟩;have dY:Hid (Below W0.heap.size W0 wz):=hd0 (HX.out.trans (hbz.mono HX.out.size));clear hbz HA;go_wp2_with fail
         go_roundw
         case rel=>exact⟨k+1,by omega,by simp,by rw[hsn.out,ahy.out],dY.out⟩
         case measure=>simp[intOf];omega
        obtain rfl:k=funcs.length:=by omega
        rw[aqr];have alH:(S121++funcs.flatMap eU).length<=S121.length+(funcs.flatMap eU).length:=ax _ _;generalize hS127:S121++funcs.flatMap eU=S127 at*
        have ahF:=hd0 hS127.symm;clear hS127;have c8:Va.cell? ⟨w.heap.size,8,none⟩=some (.slice A8 cvt.length d8):=((af HX.out).1 _ _ z0).trans (HK.out.cell 8);have alF:∀w',(Op.stringOp .add ⟨S127.toArray⟩ ⟨E.toArray⟩).run Tryz.prog w'= .ok (.string ⟨(S127++E).toArray⟩) w':=au S127 E (by omega);have alk:(S127++E).length<=S127.length+E.length:=ax _ _;generalize hS128:S127++E=S128 at*
        have ahB:=hd0 hS128.symm;clear hS128;go_wp2_with fail
        refine(HR.out _ _ _ (H8.out.lw anO.ok HX.out)).mono ?_;rintro e wy ⟨rfl,hby⟩;have HY2:Hid (Below W0.heap.size W0 wy):=hd0 (HX.out.trans (hby.mono HX.out.size));clear hby HR;go_wp2_with fail
        go_ret
        exact⟨by rw[ahB.out,ahF.out,ah9.out,ahN.out,ah7.out,ahx.out,ajU.out,aic.out,aiQ.out,ait.out,akD.out,ajr.out,akS.out,aiB.out,akA.out];rfl,HW.out.trans (HY2.out.mono HW.out.size)⟩
theorem Us (w:World)(f g:Fnt)(fc gc:List Value)(hf:an4 w (Lw w) fc f)(hg:an4 w (Lw w) gc g)(h1:(jO f).length<=100000000000000)(h2:(jO g).length<=100000000000000):
  Calls Tryz.prog 21 #[.agg fc.toArray,.agg gc.toArray] w fun e w'=>e= .returned (.bool (jO f==jO g))/\Below w.heap.size w w':=by
 obtain⟨A1,c1,A2,c2,A3,c3,A4,c4,A5,c5,A6,c6,A7,c7,A8,c8,rfl,i0,s1,s2,s3,s4,s5,s6,s7,s8⟩:=hf;obtain⟨B1,d1,B2,d2,B3,d3,B4,d4,B5,d5,B6,d6,B7,d7,B8,d8,rfl,j0,t1,t2,t3,t4,t5,t6,t7,t8⟩:=hg;have HF:=hd0 (fun w' (h:Below w.heap.size w w')=>QV w' f A1 A2 A3 A4 A5 A6 A7 A8 c1 c2 c3 c4 c5 c6 c7 c8 i0 (s1.lw anS.ok h) (s2.lw aop.ok h) (s3.lw anV.ok h) (s4.lw anU.ok h) (s5.lw aoh.ok h) (s6.lw anY.ok h) (s7.lw aod.ok h) (s8.lw anO.ok h) h1);have HG:=hd0 (fun w' (h:Below w.heap.size w w')=>QV w' g B1 B2 B3 B4 B5 B6 B7 B8 d1 d2 d3 d4 d5 d6 d7 d8 j0 (t1.lw anS.ok h) (t2.lw aop.ok h) (t3.lw anV.ok h) (t4.lw anU.ok h) (t5.lw aoh.ok h) (t6.lw anY.ok h) (t7.lw aod.ok h) (t8.lw anO.ok h) h2);clear s1 s2 s3 s4 s5 s6 s7 s8 t1 t2 t3 t4 t5 t6 t7 t8 i0 j0 h1 h2;generalize jO f=PF at*
 generalize jO g=PG at*
 go_enter Tryz.func21,Tryz.ntmps21
 go_wp2_with fail
 obtain⟨W1,hW1⟩:∃W1,w.alloc (.cells #[.int .i64 f.unit,.slice A1 f.anL.length c1,.slice A2 f.chars.length c2,.slice A3 f.anM.length c3,.slice A4 f.features.length c4,.slice A5 f.anR.length c5,.slice A6 f.regions.length c6,.slice A7 f.funcs.length c7,.slice A8 f.cvt.length c8] 32)=W1:=⟨_,rfl⟩
 obtain⟨W2,hW2⟩:∃W2,W1.alloc (.cells #[.int .i64 g.unit,.slice B1 g.anL.length d1,.slice B2 g.chars.length d2,.slice B3 g.anM.length d3,.slice B4 g.features.length d4,.slice B5 g.anR.length d5,.slice B6 g.regions.length d6,.slice B7 g.funcs.length d7,.slice B8 g.cvt.length d8] 32)=W2:=⟨_,rfl⟩
 have hz1:W1.heap.size=w.heap.size+1:=by rw[<-hW1];simp
 rw[hW1,hW2];have k1:Bk W1 w.heap.size 32 #[.int .i64 f.unit,.slice A1 f.anL.length c1,.slice A2 f.chars.length c2,.slice A3 f.anM.length c3,.slice A4 f.features.length c4,.slice A5 f.anR.length c5,.slice A6 f.regions.length c6,.slice A7 f.funcs.length c7,.slice A8 f.cvt.length c8]:=by rw[<-hW1];exact Bk.new _ _ _
 have k2:Bk W2 W1.heap.size 32 #[.int .i64 g.unit,.slice B1 g.anL.length d1,.slice B2 g.chars.length d2,.slice B3 g.anM.length d3,.slice B4 g.features.length d4,.slice B5 g.anR.length d5,.slice B6 g.regions.length d6,.slice B7 g.funcs.length d7,.slice B8 g.cvt.length d8]:=by rw[<-hW2];exact Bk.new _ _ _
 have k1':Bk W2 w.heap.size 32 #[.int .i64 f.unit,.slice A1 f.anL.length c1,.slice A2 f.chars.length c2,.slice A3 f.anM.length c3,.slice A4 f.features.length c4,.slice A5 f.anR.length c5,.slice A6 f.regions.length c6,.slice A7 f.funcs.length c7,.slice A8 f.cvt.length c8]:=by rw[<-hW2];exact k1.alloc _
 have HB:Hid (Below w.heap.size w W2):=by rw[<-hW2,<-hW1];exact hd0 (((aqk _ _).alloc (ag _) _).alloc (by simp) _)
 rw[hz1] at k2;clear hW1 hW2 k1 hz1;have x0:∀xw:WIn (fun v=>Below W2.heap.size W2 v),xw.w.cell? ⟨w.heap.size,0,none⟩=some (.int .i64 f.unit):=ae (k1'.cell 0);have x1:∀xw:WIn (fun v=>Below W2.heap.size W2 v),xw.w.cell? ⟨w.heap.size,1,none⟩=some (.slice A1 f.anL.length c1):=ae (k1'.cell 1);have x2:∀xw:WIn (fun v=>Below W2.heap.size W2 v),xw.w.cell? ⟨w.heap.size,2,none⟩=some (.slice A2 f.chars.length c2):=ae (k1'.cell 2);have x3:∀xw:WIn (fun v=>Below W2.heap.size W2 v),xw.w.cell? ⟨w.heap.size,3,none⟩=some (.slice A3 f.anM.length c3):=ae (k1'.cell 3);have x4:∀xw:WIn (fun v=>Below W2.heap.size W2 v),xw.w.cell? ⟨w.heap.size,4,none⟩=some (.slice A4 f.features.length c4):=ae (k1'.cell 4);have x5:∀xw:WIn (fun v=>Below W2.heap.size W2 v),xw.w.cell? ⟨w.heap.size,5,none⟩=some (.slice A5 f.anR.length c5):=ae (k1'.cell 5);have x6:∀xw:WIn (fun v=>Below W2.heap.size W2 v),xw.w.cell? ⟨w.heap.size,6,none⟩=some (.slice A6 f.regions.length c6):=ae (k1'.cell 6);have x7:∀xw:WIn (fun v=>Below W2.heap.size W2 v),xw.w.cell? ⟨w.heap.size,7,none⟩=some (.slice A7 f.funcs.length c7):=ae (k1'.cell 7);have x8:∀xw:WIn (fun v=>Below W2.heap.size W2 v),xw.w.cell? ⟨w.heap.size,8,none⟩=some (.slice A8 f.cvt.length c8):=ae (k1'.cell 8);have y0:∀xw:WIn (fun v=>Below W2.heap.size W2 v),xw.w.cell? ⟨(w.heap.size+1),0,none⟩=some (.int .i64 g.unit):=ae (k2.cell 0);have y1:∀xw:WIn (fun v=>Below W2.heap.size W2 v),xw.w.cell? ⟨(w.heap.size+1),1,none⟩=some (.slice B1 g.anL.length d1):=ae (k2.cell 1);have y2:∀xw:WIn (fun v=>Below W2.heap.size W2 v),xw.w.cell? ⟨(w.heap.size+1),2,none⟩=some (.slice B2 g.chars.length d2):=ae (k2.cell 2);have y3:∀xw:WIn (fun v=>Below W2.heap.size W2 v),xw.w.cell? ⟨(w.heap.size+1),3,none⟩=some (.slice B3 g.anM.length d3):=ae (k2.cell 3);have y4:∀xw:WIn (fun v=>Below W2.heap.size W2 v),xw.w.cell? ⟨(w.heap.size+1),4,none⟩=some (.slice B4 g.features.length d4):=ae (k2.cell 4);have y5:∀xw:WIn (fun v=>Below W2.heap.size W2 v),xw.w.cell? ⟨(w.heap.size+1),5,none⟩=some (.slice B5 g.anR.length d5):=ae (k2.cell 5);have y6:∀xw:WIn (fun v=>Below W2.heap.size W2 v),xw.w.cell? ⟨(w.heap.size+1),6,none⟩=some (.slice B6 g.regions.length d6):=ae (k2.cell 6);have y7:∀xw:WIn (fun v=>Below W2.heap.size W2 v),xw.w.cell? ⟨(w.heap.size+1),7,none⟩=some (.slice B7 g.funcs.length d7):=ae (k2.cell 7);have y8:∀xw:WIn (fun v=>Below W2.heap.size W2 v),xw.w.cell? ⟨(w.heap.size+1),8,none⟩=some (.slice B8 g.cvt.length d8):=ae (k2.cell 8);have HFc:=hd0 (aj (W:=W2) (fun w' h=>HF.out w' (HB.out.trans (h.mono HB.out.size))));have HGc:=hd0 (aj (W:=W2) (fun w' h=>HG.out w' (HB.out.trans (h.mono HB.out.size))));clear HF HG k1' k2;refine aW (fun v=>Below W2.heap.size W2 v) (by kernel_rfl) (by kernel_rfl) ((aqk W2.heap.size W2).drew) ?_;have aU:Nonempty (WIn (fun v=>Below W2.heap.size W2 v)):=⟨⟨_,((aqk W2.heap.size W2).drew)⟩⟩
 repeat(go_big_quiet_step (first|with_reducible exact HFc.out _|with_reducible exact HGc.out _))
 refine wpQuiet_nil ?_;intro _ hw';obtain⟨xq,hw''⟩:=hw';subst hw'';have Hq:=HB.out.trans (xq.ok.mono HB.out.size);go_wp2_with fail
 go_ret
 exact⟨rfl,Hq⟩
end Go.Proofs.YtkijckccfookeaaGreatDoor
