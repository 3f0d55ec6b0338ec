/- Lemmas. -/
import Derived.Test.YtkijckccfookeaaGreatDoorSrcD
set_option linter.unusedVariables false
set_option linter.unusedSimpArgs false
set_option maxRecDepth 100000
set_option maxHeartbeats 32000000
namespace Go.Proofs.YtkijckccfookeaaGreatDoor
open Go.RowKit
theorem aeE (i:Nat)(hi:i<8):aS[i]? =some (pick aS ((i:Int)+1)):=by obtain⟨s,e1,-⟩:=Hw ⟨i,hi⟩;simp only at e1;rw[e1,pick,if_neg (by omega),show((i:Int)+1 - 1).toNat=i by omega,e1];rfl
theorem WF (w:World):Calls Tryz.prog 53 #[] w fun e w'=>e= .returned (.slice (some ⟨w.heap.size,0,none⟩) 8 8)/\w'=w.alloc (.cells (strs aS).toArray 9):=by
 go_enter Tryz.func53,Tryz.ntmps53
 go_wp2_with fail
 go_ret
 exact⟨rfl,rfl⟩
theorem WH (w:World):Calls Tryz.prog 53 #[] w fun e w'=>∃nb,e= .returned (.slice (some ⟨nb,0,none⟩) 8 8)/\Below w.heap.size w w'/\∀(i:Nat) (s:B),aS[i]? =some s->w'.cell? ⟨nb,i,none⟩=some (.string ⟨s.toArray⟩):=by refine(WF w).mono ?_;rintro e w' ⟨rfl,rfl⟩;exact⟨_,rfl,(aqk _ _).alloc (ag _) _,fun i s h=>((Bk.new w 9 (strs aS).toArray).cell i).trans (by simpa using strs_get h)⟩
theorem Xe {w:World}{f:Fnt}{fc rc:List Value}{kind:Int}{r:aom}(hf:an4 w (Lw w) fc f)(hr:an7 w (Lw w) rc r)(hn:∀g∈f.anL,nameB g.name=true)(h:OkR f.anL.length kind r)(hs:SmR r):
  Calls Tryz.prog 54 #[.agg fc.toArray,.int .i64 kind,.agg rc.toArray] w fun e w'=>e= .returned (.string ⟨(qV f.anL kind r).toArray⟩)/\Below w.heap.size w w':=by
 have hg:∀n,In f.anL.length n->In f.anL.length n/\(iI f.anL n).length<=100:=fun n h=>⟨h,nt (xh hn h) (by decide)⟩
 obtain⟨r1,r2,r3⟩:=hs.rows;obtain⟨q1,q2,q3⟩:=hs.sets;obtain⟨p1,p2⟩:=hs.outs;exact aaO w f fc hf kind r rc hr ⟨by omega,by omega,by omega⟩ (fun s h'=>⟨by have:=q1 s h';omega,fun n hn'=>hg n ((h.back s h').2 n hn')⟩) (fun s h'=>⟨by have:=q2 s h';omega,fun n hn'=>hg n ((h.in' s h').2 n hn')⟩) (fun s h'=>⟨by have:=q3 s h';omega,fun n hn'=>hg n ((h.ahead s h').2 n hn')⟩) ⟨by omega,fun n hn'=>hg n (h.out n hn')⟩ ⟨by omega,h.calls⟩ h.x
theorem src_ok (w:World)(f:Fnt)(fc:List Value)(hf:an4 w (Lw w) fc f)(hr:aoR f)(hs:SmF f):
  Calls Tryz.prog 24 #[.agg fc.toArray] w fun e w'=>e= .returned (.string ⟨(Aw f).toArray⟩)/\Below w.heap.size w w':=by
 have HF:=hd0 hf;have HR:=hd0 hr;have HS:=hd0 hs;have HN:=hd0 (pM hr);have hL:=Ad hr hs;rw[xx hr] at hL;have hsl:Hid (Aw f=[117,110,105,116]++dB f.unit++[10]++f.anR.flatMap uZ++f.regions.flatMap ve++f.cvt.flatMap vH++f.funcs.flatMap fnS++f.anM.flatMap (uF f.anL)++f.anL.flatMap (lu f.anL)++f.chars.flatMap (vw f.anL)++f.features.flatMap uU):=hd0 rfl;simp only[Aw,az] at hL;obtain⟨A1,c1,A2,c2,A3,c3,A4,c4,A5,c5,A6,c6,A7,c7,A8,c8,rfl,-,s1,s2,s3,s4,s5,s6,s7,s8⟩:=hf;have H1:=hd0 s1;have H2:=hd0 s2;have H3:=hd0 s3;have H4:=hd0 s4;have H5:=hd0 s5;have H6:=hd0 s6;have H7:=hd0 s7;have H8:=hd0 s8;have hd1:=hd0 (fun w'=>iy w' f.unit hr.unit);have za1:=hs.anL.1;have za2:=hs.chars;have za3:=hs.anM.1;have za4:=hs.an3.1;have za5:=hs.anR;have za6:=hs.regs.1;have za7:=hs.funcs.1;have za8:=hs.cvt;clear s1 s2 s3 s4 s5 s6 s7 s8 hr hs;generalize dB f.unit=D0 at*
 go_enter Tryz.func24,Tryz.ntmps24
 go_wp2_with fail
 obtain⟨W0,hW0⟩:∃W0,w.alloc (.cells #[.int .i64 f.unit,.slice A1 f.anL.length c1,.slice A2 f.chars.length c2,.slice A3 f.anM.length c3,.slice A4 f.features.length c4,.slice A5 f.anR.length c5,.slice A6 f.regions.length c6,.slice A7 f.funcs.length c7,.slice A8 f.cvt.length c8] 32)=W0:=⟨_,rfl⟩
 rw[hW0];have HW:Hid (Below w.heap.size w W0):=by rw[<-hW0];exact hd0 ((aqk _ _).alloc (ag _) _)
 have HK:Hid (Bk W0 w.heap.size 32 #[.int .i64 f.unit,.slice A1 f.anL.length c1,.slice A2 f.chars.length c2,.slice A3 f.anM.length c3,.slice A4 f.features.length c4,.slice A5 f.anR.length c5,.slice A6 f.regions.length c6,.slice A7 f.funcs.length c7,.slice A8 f.cvt.length c8]):=by rw[<-hW0];exact hd0 (Bk.new _ _ _)
 have z0:w.heap.size<W0.heap.size:=HK.out.lt;clear hW0;replace H1:=hd0 (H1.out.lw anS.ok HW.out);replace H2:=hd0 (H2.out.lw aop.ok HW.out);replace H3:=hd0 (H3.out.lw anV.ok HW.out);replace H4:=hd0 (H4.out.lw anU.ok HW.out);replace H5:=hd0 (H5.out.lw aoh.ok HW.out);replace H6:=hd0 (H6.out.lw anY.ok HW.out);replace H7:=hd0 (H7.out.lw aod.ok HW.out);replace H8:=hd0 (H8.out.lw anO.ok HW.out);replace HF:=hd0 (HF.out.lw HW.out);have g0:W0.cell? ⟨w.heap.size,0,none⟩=some (.int .i64 f.unit):=HK.out.cell 0;have rT1:∀w',(Op.stringOp .add ⟨#[117,110,105,116]⟩ ⟨D0.toArray⟩).run Tryz.prog w'= .ok (.string ⟨([117,110,105,116]++D0).toArray⟩) w':=au [117,110,105,116] D0 (by simp only[ay,ln];omega);have lT1:([117,110,105,116]++D0).length<=4+D0.length:=ax _ _;generalize hT1:[117,110,105,116]++D0=T1 at*
 have HT1:=hd0 hT1.symm;clear hT1;have rT2:∀w',(Op.stringOp .add ⟨T1.toArray⟩ ⟨#[10]⟩).run Tryz.prog w'= .ok (.string ⟨(T1++[10]).toArray⟩) w':=au T1 [10] (by simp only[ay,ln];omega);have lT2:(T1++[10]).length<=T1.length+1:=ax _ _;generalize hT2:T1++[10]=T2 at*
 have HT2:=hd0 hT2.symm;clear hT2;go_wp2_with fail
 refine(hd1.out W0).mono ?_;rintro e wa ⟨rfl,hbz⟩;have yM:Hid (Below W0.heap.size W0 wa):=hd0 (hbz);clear hbz;have HX:=yM;clear g0;go_wp2_with fail
 go_loopw [3,4] (fun s i wr=>∃k:Nat,k<=f.anR.length/\i= .int .i64 k/\s= .string ⟨(T2++(f.anR.take k).flatMap uZ).toArray⟩/\Below W0.heap.size W0 wr) (fun _ i _=>f.anR.length - (intOf i).toNat)
 case atStart=>exact⟨0,nz _,rfl,by simp,HX.out⟩
 case round=>
  obtain⟨PN,rfl⟩:∃x,x=wr:=⟨_,rfl⟩
  obtain⟨k,hk,rfl,rfl,hb⟩:=hrel;clear HX;have HX:=hd0 hb;have g5:PN.cell? ⟨w.heap.size,5,none⟩=some (.slice A5 f.anR.length c5):=((af HX.out).1 _ _ z0).trans (HK.out.cell 5);by_cases hlt:k<f.anR.length
  ·
   have hs0:(T2++(f.anR.take k).flatMap uZ).length<=T2.length+((f.anR.take k).flatMap uZ).length:=ax _ _;obtain⟨b,o,x,rfl,-,hx,q0,q1,q2,q3,-⟩:=(H5.out.lw aoh.ok hb).apZ hlt;obtain⟨hx0,hx1,hx2,hx3⟩:=HR.out.anR x (aqt hx.out);have hsn:Hid (T2++(f.anR.take (k+1)).flatMap uZ=T2++(f.anR.take k).flatMap uZ++[97,120,105,115,32]++x.name++dB x.min'++dB x.aou++dB x.max'++[10]):=by show _=_;rw[bg hx.out];simp[uZ,sO]
   have hf:=bJ (f:=uZ) hx.out;simp only[uZ,az,ay,ln] at hf;have HA1:=hd0 (fun w'=>iy w' x.min' hx1);have HA2:=hd0 (fun w'=>iy w' x.aou hx2);have uX:=hd0 (fun w'=>iy w' x.max' hx3);clear hx hx0 hx1 hx2 hx3 hb;generalize T2++(f.anR.take k).flatMap uZ=S2 at*
   generalize dB x.min'=DX at*
   generalize dB x.aou=DY at*
   generalize dB x.max'=DZ at*
   go_wp2_with fail
   obtain⟨W2,hW2⟩:∃W2,PN.alloc (.cells #[.string ⟨x.name.toArray⟩,.int .i64 x.min',.int .i64 x.aou,.int .i64 x.max'] 99)=W2:=⟨_,rfl⟩
   rw[hW2];have HW2:Hid (Below W0.heap.size W0 W2):=by rw[<-hW2];exact hd0 (HX.out.alloc HX.out.size _)
   have hbk:Bk W2 PN.heap.size 99 #[.string ⟨x.name.toArray⟩,.int .i64 x.min',.int .i64 x.aou,.int .i64 x.max']:=by rw[<-hW2];exact Bk.new _ _ _
   have eH:=hd0 hbk;have yu:=hbk.lt;clear hW2;clear q0 q1 q2 q3;have x0:∀xw:WIn (fun v=>Below W2.heap.size W2 v),xw.w.cell? ⟨PN.heap.size,0,none⟩=some (.string ⟨x.name.toArray⟩):=ae (hbk.cell 0);have x1:∀xw:WIn (fun v=>Below W2.heap.size W2 v),xw.w.cell? ⟨PN.heap.size,1,none⟩=some (.int .i64 x.min'):=ae (hbk.cell 1);have x2:∀xw:WIn (fun v=>Below W2.heap.size W2 v),xw.w.cell? ⟨PN.heap.size,2,none⟩=some (.int .i64 x.aou):=ae (hbk.cell 2);have x3:∀xw:WIn (fun v=>Below W2.heap.size W2 v),xw.w.cell? ⟨PN.heap.size,3,none⟩=some (.int .i64 x.max'):=ae (hbk.cell 3);clear hbk;have HB1:=hd0 (aj (W:=W2) (fun w' _=>HA1.out w'));have HB2:=hd0 (aj (W:=W2) (fun w' _=>HA2.out w'));have HB3:=hd0 (aj (W:=W2) (fun w' _=>uX.out w'));have rT3:∀w',(Op.stringOp .add ⟨S2.toArray⟩ ⟨#[97,120,105,115,32]⟩).run Tryz.prog w'= .ok (.string ⟨(S2++[97,120,105,115,32]).toArray⟩) w':=au S2 [97,120,105,115,32] (by simp only[ay,ln];omega);have lT3:(S2++[97,120,105,115,32]).length<=S2.length+5:=ax _ _;generalize BP:S2++[97,120,105,115,32]=T3 at*
   have HT3:=hd0 BP.symm;clear BP;have rT4:∀w',(Op.stringOp .add ⟨T3.toArray⟩ ⟨x.name.toArray⟩).run Tryz.prog w'= .ok (.string ⟨(T3++x.name).toArray⟩) w':=au T3 x.name (by omega);have lT4:(T3++x.name).length<=T3.length+x.name.length:=ax _ _;generalize hT4:T3++x.name=T4 at*
   have HT4:=hd0 hT4.symm;clear hT4;have rT5:∀w',(Op.stringOp .add ⟨T4.toArray⟩ ⟨DX.toArray⟩).run Tryz.prog w'= .ok (.string ⟨(T4++DX).toArray⟩) w':=au T4 DX (by omega);have lT5:(T4++DX).length<=T4.length+DX.length:=ax _ _;generalize xC:T4++DX=T5 at*
   have BI:=hd0 xC.symm;clear xC;have rT6:∀w',(Op.stringOp .add ⟨T5.toArray⟩ ⟨DY.toArray⟩).run Tryz.prog w'= .ok (.string ⟨(T5++DY).toArray⟩) w':=au T5 DY (by omega);have lT6:(T5++DY).length<=T5.length+DY.length:=ax _ _;generalize hT6:T5++DY=T6 at*
   have xe:=hd0 hT6.symm;clear hT6;have rT7:∀w',(Op.stringOp .add ⟨T6.toArray⟩ ⟨DZ.toArray⟩).run Tryz.prog w'= .ok (.string ⟨(T6++DZ).toArray⟩) w':=au T6 DZ (by omega);have lT7:(T6++DZ).length<=T6.length+DZ.length:=ax _ _;generalize hT7:T6++DZ=T7 at*
   have xK:=hd0 hT7.symm;clear hT7;have rT8:∀w',(Op.stringOp .add ⟨T7.toArray⟩ ⟨#[10]⟩).run Tryz.prog w'= .ok (.string ⟨(T7++[10]).toArray⟩) w':=au T7 [10] (by simp only[ay,ln];omega);have lT8:(T7++[10]).length<=T7.length+1:=ax _ _;generalize hT8:T7++[10]=T8 at*
   have Ba:=hd0 hT8.symm;clear hT8;clear hf hs0 HA1 HA2 uX;refine aW (fun v=>Below W2.heap.size W2 v) (by kernel_rfl) (by kernel_rfl) ((aqk W2.heap.size W2).drew) ?_;have aU:Nonempty (WIn (fun v=>Below W2.heap.size W2 v)):=⟨⟨_,((aqk W2.heap.size W2).drew)⟩⟩
   repeat(go_big_quiet_step (first|with_reducible exact HB1.out _|with_reducible exact HB2.out _|with_reducible exact HB3.out _))
   refine wpQuiet_nil ?_;intro _ hw';obtain⟨xq,hw''⟩:=hw';subst hw'';have dY:Hid (Below W0.heap.size W0 xq.w):=hd0 (HW2.out.trans (xq.ok.mono HW2.out.size));generalize xq.w=wz at*
   go_wp2_with fail
   go_roundw
   case rel=>exact⟨k+1,by omega,by simp,by rw[hsn.out,Ba.out,xK.out,xe.out,BI.out,HT4.out,HT3.out],dY.out⟩
   case measure=>simp[intOf];omega
  obtain rfl:k=f.anR.length:=by omega
  rw[aqr];have alu:(T2++f.anR.flatMap uZ).length<=T2.length+(f.anR.flatMap uZ).length:=ax _ _;generalize hSwl1:T2++f.anR.flatMap uZ=Swl1 at*
  have ahq:=hd0 hSwl1.symm;clear hSwl1 hb;go_wp2_with fail
  go_loopw [3,6] (fun s i wr=>∃k:Nat,k<=f.regions.length/\i= .int .i64 k/\s= .string ⟨(Swl1++(f.regions.take k).flatMap ve).toArray⟩/\Below W0.heap.size W0 wr) (fun _ i _=>f.regions.length - (intOf i).toNat)
  case atStart=>exact⟨0,nz _,rfl,by simp,HX.out⟩
  case round=>
   obtain⟨Ey,rfl⟩:∃x,x=wr:=⟨_,rfl⟩
   obtain⟨k,hk,rfl,rfl,hb⟩:=hrel;clear HX;have HX:=hd0 hb;have g6:Ey.cell? ⟨w.heap.size,6,none⟩=some (.slice A6 f.regions.length c6):=((af HX.out).1 _ _ z0).trans (HK.out.cell 6);by_cases hlt:k<f.regions.length
   ·
    have hs0:(Swl1++(f.regions.take k).flatMap ve).length<=Swl1.length+((f.regions.take k).flatMap ve).length:=ax _ _;obtain⟨b,o,x,At,ct,rfl,-,hx,q0,st⟩:=(H6.out.lw anY.ok hb).region hlt;have hxr:=HR.out.regs x (aqt hx.out);have zt:=HS.out.regs.2 x (aqt hx.out);have hsn:Hid (Swl1++(f.regions.take (k+1)).flatMap ve=Swl1++(f.regions.take k).flatMap ve++[114,101,103,105,111,110]++x.anT.flatMap wK++[10]):=by show _=_;rw[bg hx.out];simp[ve,kG]
    have hf:=bJ (f:=ve) hx.out;simp only[ve,az,ay,ln] at hf;have HST:=hd0 st;have HXR:=hd0 hxr;have HX0:=HX;have zb:=World.block_lt_of_cell? _ _ q0;have Yd:=hd0 q0;clear hx hxr st q0 hb g6;generalize Swl1++(f.regions.take k).flatMap ve=S2 at*
    have rT9:∀w',(Op.stringOp .add ⟨S2.toArray⟩ ⟨#[114,101,103,105,111,110]⟩).run Tryz.prog w'= .ok (.string ⟨(S2++[114,101,103,105,111,110]).toArray⟩) w':=au S2 [114,101,103,105,111,110] (by simp only[ay,ln];omega);have lT9:(S2++[114,101,103,105,111,110]).length<=S2.length+6:=ax _ _;generalize hT9:S2++[114,101,103,105,111,110]=T9 at*
    have ZH:=hd0 hT9.symm;clear hT9;have g6:Ey.cell? ⟨w.heap.size,6,none⟩=some (.slice (some ⟨b,o,none⟩) f.regions.length c6):=((af HX.out).1 _ _ z0).trans (HK.out.cell 6);go_wp2_with fail
    go_loopw [3,7] (fun s i wr=>∃j:Nat,j<=x.anT.length/\i= .int .i64 j/\s= .string ⟨(T9++(x.anT.take j).flatMap wK).toArray⟩/\Below Ey.heap.size Ey wr) (fun _ i _=>x.anT.length - (intOf i).toNat)
    case atStart=>exact⟨0,nz _,rfl,by simp,aqk _ _⟩
    case round=>
     obtain⟨wi,rfl⟩:∃x,x=wr:=⟨_,rfl⟩
     obtain⟨j,hj,rfl,rfl,hb⟩:=hrel;have kN:Hid (Below Ey.heap.size Ey wi):=hd0 hb;have fQ:Hid (Below W0.heap.size W0 wi):=hd0 (HX0.out.trans (hb.mono HX0.out.size));clear hb;clear g6;have g6:wi.cell? ⟨w.heap.size,6,none⟩=some (.slice (some ⟨b,o,none⟩) f.regions.length c6):=((af fQ.out).1 _ _ z0).trans (HK.out.cell 6);have q0:wi.cell? ⟨b,o+k,none⟩=some (.slice At x.anT.length ct):=((af kN.out).1 _ _ zb).trans Yd.out;by_cases hltj:j<x.anT.length
     ·
      obtain⟨b3,o3,y,rfl,-,hy,u0,u1,u2,-⟩:=(HST.out.lw aoL.ok kN.out).ap0 hltj;obtain⟨hy0,hy1,hy2⟩:=HXR.out y (aqt hy.out);have hjn:Hid (T9++(x.anT.take (j+1)).flatMap wK=T9++(x.anT.take j).flatMap wK++dB y.start++dB y.peak++dB y.stop):=by show _=_;rw[bg hy.out];simp[wK]
      have hf2:=bJ (f:=wK) hy.out;simp only[wK,az,ay,ln] at hf2;have hs2:(T9++(x.anT.take j).flatMap wK).length<=T9.length+((x.anT.take j).flatMap wK).length:=ax _ _;have jL:=hd0 (fun w'=>iy w' y.start hy0);have HA1:=hd0 (fun w'=>iy w' y.peak hy1);have HA2:=hd0 (fun w'=>iy w' y.stop hy2);clear hy hy0 hy1 hy2;generalize T9++(x.anT.take j).flatMap wK=S3 at*
      generalize dB y.start=DX at*
      generalize dB y.peak=DY at*
      generalize dB y.stop=DZ at*
      go_wp2_with fail
      obtain⟨W2,hW2⟩:∃W2,wi.alloc (.cells #[.int .i64 y.start,.int .i64 y.peak,.int .i64 y.stop] 101)=W2:=⟨_,rfl⟩
      rw[hW2];have HW2:Hid (Below Ey.heap.size Ey W2):=by rw[<-hW2];exact hd0 (kN.out.alloc kN.out.size _)
      have hbk:Bk W2 wi.heap.size 101 #[.int .i64 y.start,.int .i64 y.peak,.int .i64 y.stop]:=by rw[<-hW2];exact Bk.new _ _ _
      clear hW2 u0 u1 u2 g6 q0;have x0:∀xw:WIn (fun v=>Below W2.heap.size W2 v),xw.w.cell? ⟨wi.heap.size,0,none⟩=some (.int .i64 y.start):=ae (hbk.cell 0);have x1:∀xw:WIn (fun v=>Below W2.heap.size W2 v),xw.w.cell? ⟨wi.heap.size,1,none⟩=some (.int .i64 y.peak):=ae (hbk.cell 1);have x2:∀xw:WIn (fun v=>Below W2.heap.size W2 v),xw.w.cell? ⟨wi.heap.size,2,none⟩=some (.int .i64 y.stop):=ae (hbk.cell 2);clear hbk;have HB0:=hd0 (aj (W:=W2) (fun w' _=>jL.out w'));have HB1:=hd0 (aj (W:=W2) (fun w' _=>HA1.out w'));have HB2:=hd0 (aj (W:=W2) (fun w' _=>HA2.out w'));have akO:∀w',(Op.stringOp .add ⟨S3.toArray⟩ ⟨DX.toArray⟩).run Tryz.prog w'= .ok (.string ⟨(S3++DX).toArray⟩) w':=au S3 DX (by omega);have aiL:(S3++DX).length<=S3.length+DX.length:=ax _ _;generalize hT10:S3++DX=T10 at*
      have abk:=hd0 hT10.symm;clear hT10;have ajV:∀w',(Op.stringOp .add ⟨T10.toArray⟩ ⟨DY.toArray⟩).run Tryz.prog w'= .ok (.string ⟨(T10++DY).toArray⟩) w':=au T10 DY (by omega);have ajC:(T10++DY).length<=T10.length+DY.length:=ax _ _;generalize hT11:T10++DY=T11 at*
      have E5:=hd0 hT11.symm;clear hT11;have ai6:∀w',(Op.stringOp .add ⟨T11.toArray⟩ ⟨DZ.toArray⟩).run Tryz.prog w'= .ok (.string ⟨(T11++DZ).toArray⟩) w':=au T11 DZ (by omega);have aih:(T11++DZ).length<=T11.length+DZ.length:=ax _ _;generalize hT12:T11++DZ=T12 at*
      have Dl:=hd0 hT12.symm;clear hT12;clear hf2 hs2 jL HA1 HA2;refine aW (fun v=>Below W2.heap.size W2 v) (by kernel_rfl) (by kernel_rfl) ((aqk W2.heap.size W2).drew) ?_;have aU:Nonempty (WIn (fun v=>Below W2.heap.size W2 v)):=⟨⟨_,((aqk W2.heap.size W2).drew)⟩⟩
      repeat(go_big_quiet_step (first|with_reducible exact HB0.out _|with_reducible exact HB1.out _|with_reducible exact HB2.out _))
      refine wpQuiet_nil ?_;intro _ hw';obtain⟨xq,hw''⟩:=hw';subst hw'';have dY:Hid (Below Ey.heap.size Ey xq.w):=hd0 (HW2.out.trans (xq.ok.mono HW2.out.size));generalize xq.w=wz at*
      go_wp2_with fail
      go_roundw
      case rel=>exact⟨j+1,by omega,by simp,by rw[hjn.out,Dl.out,E5.out,abk.out],dY.out⟩
      case measure=>simp[intOf];omega
     obtain rfl:j=x.anT.length:=by omega
     rw[aqr];have lE1:(T9++x.anT.flatMap wK).length<=T9.length+(x.anT.flatMap wK).length:=ax _ _;generalize hE1:T9++x.anT.flatMap wK=E1 at*
     have PW:=hd0 hE1.symm;clear hE1;have ajf:∀w',(Op.stringOp .add ⟨E1.toArray⟩ ⟨#[10]⟩).run Tryz.prog w'= .ok (.string ⟨(E1++[10]).toArray⟩) w':=au E1 [10] (by simp only[ay,ln];omega);have ai0:(E1++[10]).length<=E1.length+1:=ax _ _;generalize hT13:E1++[10]=T13 at*
     have abV:=hd0 hT13.symm;clear hT13;clear hs0 hf;go_wp2_with fail
     go_roundw
     case rel=>exact⟨k+1,by omega,by simp,by rw[hsn.out,abV.out,PW.out,ZH.out],fQ.out⟩
     case measure=>simp[intOf];omega
   obtain rfl:k=f.regions.length:=by omega
   rw[aqr];have ala:(Swl1++f.regions.flatMap ve).length<=Swl1.length+(f.regions.flatMap ve).length:=ax _ _;generalize hSwl2:Swl1++f.regions.flatMap ve=Swl2 at*
   have ag5:=hd0 hSwl2.symm;clear hSwl2 hb;go_wp2_with fail
   go_loopw [3,9] (fun s i wr=>∃k:Nat,k<=f.cvt.length/\i= .int .i64 k/\s= .string ⟨(Swl2++(f.cvt.take k).flatMap vH).toArray⟩/\Below W0.heap.size W0 wr) (fun _ i _=>f.cvt.length - (intOf i).toNat)
   case atStart=>exact⟨0,nz _,rfl,by simp,HX.out⟩
   case round=>
    obtain⟨wl3,rfl⟩:∃x,x=wr:=⟨_,rfl⟩
    obtain⟨k,hk,rfl,rfl,hb⟩:=hrel;clear HX;have HX:=hd0 hb;have g8:wl3.cell? ⟨w.heap.size,8,none⟩=some (.slice A8 f.cvt.length c8):=((af HX.out).1 _ _ z0).trans (HK.out.cell 8);by_cases hlt:k<f.cvt.length
    ·
     have hs0:(Swl2++(f.cvt.take k).flatMap vH).length<=Swl2.length+((f.cvt.take k).flatMap vH).length:=ax _ _;obtain⟨b,o,x,rfl,-,hx,q0,-⟩:=(H8.out.lw anO.ok hb).int hlt;have hx0:=HR.out.cvt x (aqt hx.out);have hsn:Hid (Swl2++(f.cvt.take (k+1)).flatMap vH=Swl2++(f.cvt.take k).flatMap vH++[99,118,116]++dB x++[10]):=by show _=_;rw[bg hx.out];simp[vH,pz]
     have hf:=bJ (f:=vH) hx.out;simp only[vH,az,ay,ln] at hf;have HB1:=hd0 (fun w'=>iy w' x hx0);clear hx hx0 hb;generalize Swl2++(f.cvt.take k).flatMap vH=S2 at*
     generalize dB x=DX at*
     have ai8:∀w',(Op.stringOp .add ⟨S2.toArray⟩ ⟨#[99,118,116]⟩).run Tryz.prog w'= .ok (.string ⟨(S2++[99,118,116]).toArray⟩) w':=au S2 [99,118,116] (by simp only[ay,ln];omega);have ajO:(S2++[99,118,116]).length<=S2.length+3:=ax _ _;generalize hT14:S2++[99,118,116]=T14 at*
     have aav:=hd0 hT14.symm;clear hT14;have ajF:∀w',(Op.stringOp .add ⟨T14.toArray⟩ ⟨DX.toArray⟩).run Tryz.prog w'= .ok (.string ⟨(T14++DX).toArray⟩) w':=au T14 DX (by omega);have aiz:(T14++DX).length<=T14.length+DX.length:=ax _ _;generalize hT15:T14++DX=T15 at*
     have aaH:=hd0 hT15.symm;clear hT15;have ajL:∀w',(Op.stringOp .add ⟨T15.toArray⟩ ⟨#[10]⟩).run Tryz.prog w'= .ok (.string ⟨(T15++[10]).toArray⟩) w':=au T15 [10] (by simp only[ay,ln];omega);have ajd:(T15++[10]).length<=T15.length+1:=ax _ _;generalize hT16:T15++[10]=T16 at*
     have aa7:=hd0 hT16.symm;clear hT16;clear hf hs0;go_wp2_with fail
     refine(HB1.out wl3).mono ?_;rintro e wz ⟨rfl,hbz⟩;have dY:Hid (Below W0.heap.size W0 wz):=hd0 (HX.out.trans (hbz.mono HX.out.size));clear hbz;go_wp2_with fail
     go_roundw
     case rel=>exact⟨k+1,by omega,by simp,by rw[hsn.out,aa7.out,aaH.out,aav.out],dY.out⟩
     case measure=>simp[intOf];omega
    obtain rfl:k=f.cvt.length:=by omega
    rw[aqr];have alB:(Swl2++f.cvt.flatMap vH).length<=Swl2.length+(f.cvt.flatMap vH).length:=ax _ _;generalize hSwl3:Swl2++f.cvt.flatMap vH=Swl3 at*
    have ahp:=hd0 hSwl3.symm;clear hSwl3 hb;go_wp2_with fail
    go_loopw [3,10] (fun s i wr=>∃k:Nat,k<=f.funcs.length/\i= .int .i64 k/\s= .string ⟨(Swl3++(f.funcs.take k).flatMap fnS).toArray⟩/\Below W0.heap.size W0 wr) (fun _ i _=>f.funcs.length - (intOf i).toNat)
    case atStart=>exact⟨0,nz _,rfl,by simp,HX.out⟩
    case round=>
     obtain⟨wl4,rfl⟩:∃x,x=wr:=⟨_,rfl⟩
     obtain⟨k,hk,rfl,rfl,hb⟩:=hrel;clear HX;have HX:=hd0 hb;have g7:wl4.cell? ⟨w.heap.size,7,none⟩=some (.slice A7 f.funcs.length c7):=((af HX.out).1 _ _ z0).trans (HK.out.cell 7);by_cases hlt:k<f.funcs.length
     ·
      have hs0:(Swl3++(f.funcs.take k).flatMap fnS).length<=Swl3.length+((f.funcs.take k).flatMap fnS).length:=ax _ _;obtain⟨b,o,x,Ac,cc,rfl,-,hx,q0,sc⟩:=(H7.out.lw aod.ok hb).code hlt;have hx0:=HR.out.funcs x (aqt hx.out);have hx1:=HS.out.funcs.2 x (aqt hx.out);have hsn:Hid (Swl3++(f.funcs.take (k+1)).flatMap fnS=Swl3++(f.funcs.take k).flatMap fnS++[102,117,110,99]++x.flatMap oV++[10]):=by show _=_;rw[bg hx.out];simp[fnS,rY]
      have hf:=bJ (f:=fnS) hx.out;simp only[fnS,az,ay,ln] at hf;have HB1:=hd0 (TT wl4 Ac cc x sc hx0 (by omega));clear hx hx0 hx1 hb sc;generalize Swl3++(f.funcs.take k).flatMap fnS=S2 at*
      generalize x.flatMap oV=DX at*
      have aiY:∀w',(Op.stringOp .add ⟨S2.toArray⟩ ⟨#[102,117,110,99]⟩).run Tryz.prog w'= .ok (.string ⟨(S2++[102,117,110,99]).toArray⟩) w':=au S2 [102,117,110,99] (by simp only[ay,ln];omega);have akF:(S2++[102,117,110,99]).length<=S2.length+4:=ax _ _;generalize hT17:S2++[102,117,110,99]=T17 at*
      have Z5:=hd0 hT17.symm;clear hT17;have ajh:∀w',(Op.stringOp .add ⟨T17.toArray⟩ ⟨DX.toArray⟩).run Tryz.prog w'= .ok (.string ⟨(T17++DX).toArray⟩) w':=au T17 DX (by omega);have aix:(T17++DX).length<=T17.length+DX.length:=ax _ _;generalize hT18:T17++DX=T18 at*
      have abH:=hd0 hT18.symm;clear hT18;have akn:∀w',(Op.stringOp .add ⟨T18.toArray⟩ ⟨#[10]⟩).run Tryz.prog w'= .ok (.string ⟨(T18++[10]).toArray⟩) w':=au T18 [10] (by simp only[ay,ln];omega);have ajQ:(T18++[10]).length<=T18.length+1:=ax _ _;generalize hT19:T18++[10]=T19 at*
      have acn:=hd0 hT19.symm;clear hT19;clear hf hs0;go_wp2_with fail
      refine(HB1.out).mono ?_;rintro e wz ⟨rfl,hbz⟩;have dY:Hid (Below W0.heap.size W0 wz):=hd0 (HX.out.trans (hbz.mono HX.out.size));clear hbz;go_wp2_with fail
      go_roundw
      case rel=>exact⟨k+1,by omega,by simp,by rw[hsn.out,acn.out,abH.out,Z5.out],dY.out⟩
      case measure=>simp[intOf];omega
     obtain rfl:k=f.funcs.length:=by omega
     rw[aqr];have alz:(Swl3++f.funcs.flatMap fnS).length<=Swl3.length+(f.funcs.flatMap fnS).length:=ax _ _;generalize hSwl4:Swl3++f.funcs.flatMap fnS=Swl4 at*
     have ahv:=hd0 hSwl4.symm;clear hSwl4 hb;go_wp2_with fail
     go_loopw [3,11] (fun s i wr=>∃k:Nat,k<=f.anM.length/\i= .int .i64 k/\s= .string ⟨(Swl4++(f.anM.take k).flatMap (uF f.anL)).toArray⟩/\Below W0.heap.size W0 wr) (fun _ i _=>f.anM.length - (intOf i).toNat)
     case atStart=>exact⟨0,nz _,rfl,by simp,HX.out⟩
     case round=>
      obtain⟨Ut,rfl⟩:∃x,x=wr:=⟨_,rfl⟩
      obtain⟨k,hk,rfl,rfl,hb⟩:=hrel;clear HX;have HX:=hd0 hb;have g3:Ut.cell? ⟨w.heap.size,3,none⟩=some (.slice A3 f.anM.length c3):=((af HX.out).1 _ _ z0).trans (HK.out.cell 3);by_cases hlt:k<f.anM.length
      ·
       have hs0:(Swl4++(f.anM.take k).flatMap (uF f.anL)).length<=Swl4.length+((f.anM.take k).flatMap (uF f.anL)).length:=ax _ _;obtain⟨b,o,x,Ar,cr,rfl,-,hx,q0,q1,q2,-,sr⟩:=(H3.out.lw anV.ok hb).lookup hlt;obtain⟨hx0,hx1,hx2⟩:=HR.out.anM x (aqt hx.out);obtain⟨zt,hx4⟩:=HS.out.anM.2 x (aqt hx.out);obtain⟨ak,hak,ab6⟩:∃ak:Nat,x.kind=(ak:Int)+1/\ak<8:=⟨(x.kind - 1).toNat,by omega,by omega⟩
       have han:Hid (aS[ak]? =some (pick aS x.kind)):=by rw[hak];exact hd0 (aeE ak ab6)
       have hsn:Hid (Swl4++(f.anM.take (k+1)).flatMap (uF f.anL)=Swl4++(f.anM.take k).flatMap (uF f.anL)++([108,111,111,107,117,112,32]++pick aS x.kind)++(if x.aol then [32,105,103,110,111,114,101] else [])++[10]++x.rules.flatMap (qV f.anL x.kind)):=by show _=_;rw[bg hx.out];simp[uF,Zr,lU,iE]
       have hf:=bJ (f:=uF f.anL) hx.out;simp only[uF,Zr,az,ay,ln] at hf;have sm3:=qH aS 9 (by decide) (by decide) x.kind;have uy:=hd0 hx2;have HRS:=hd0 hx4;have HSR:=hd0 sr;obtain⟨M,hM⟩:∃M:B,(if x.aol then [32,105,103,110,111,114,101] else [])=M:=⟨_,rfl⟩
       rw[hM] at hsn;have lM:M.length<=7:=by rw[<-hM];split<;>simp
       have HKI:=hd0 hak;rw[hak] at q0;clear hx hx0 hx1 hx2 hx4 hb sr hak;generalize Swl4++(f.anM.take k).flatMap (uF f.anL)=S2 at*
       generalize pick aS x.kind=DK at*
       have e1:decide ((1:Int)<=(ak:Int)+1)=true:=by simp;omega
       have e2:decide ((ak:Int)+1<=8)=true:=by simp;omega
       go_wp2_with fail
       obtain⟨W2,hW2⟩:∃W2,Ut.alloc (.cells #[.int .i64 ((ak:Int)+1),.bool x.aol,.slice Ar x.rules.length cr] 72)=W2:=⟨_,rfl⟩
       rw[hW2];have HW2:Hid (Below W0.heap.size W0 W2):=by rw[<-hW2];exact hd0 (HX.out.alloc HX.out.size _)
       have hbk:Bk W2 Ut.heap.size 72 #[.int .i64 ((ak:Int)+1),.bool x.aol,.slice Ar x.rules.length cr]:=by rw[<-hW2];exact Bk.new _ _ _
       have eH:=hd0 hbk;have yu:=hbk.lt;have aiI:Hid (Below Ut.heap.size Ut W2):=by rw[<-hW2];exact hd0 ((aqk _ _).alloc (ag _) _)
       clear hW2;clear q0 q1 q2;obtain⟨lb,hlb⟩:∃lb,Ut.heap.size=lb:=⟨_,rfl⟩
       rw[hlb] at hbk eH yu;rw[hlb];clear hlb;go_cut [13] from 132 to 185 (fun v13 wx=>v13= .string ⟨DK.toArray⟩/\Below W2.heap.size W2 wx)
       case first=>
        have x0:W2.cell? ⟨lb,0,none⟩=some (.int .i64 ((ak:Int)+1)):=hbk.cell 0;clear hbk;have hlt4:decide ((ak:Int)<8)=true:=by simp;omega
        have hbw:=hd0 (aqk W2.heap.size W2);have hsu:(ak:Int)+1 - 1=ak:=by omega
        have hwr:IntKind.i64.wrap (ak:Int)=ak:=by rw[IntKind.wrap_i64];omega
        have hwr2:IntKind.i64.wrap ((ak:Int)+1 - 1)=ak:=by rw[hsu,hwr]
        go_wp2_with fail
        go_region_with (go_at_call 53;refine(WH _).mono ?_;rintro e w5 ⟨nb,rfl,hb5,hy⟩;have y0:=hy ak DK han.out;have x5:w5.cell? ⟨lb,0,none⟩=some (.int .i64 ((ak:Int)+1)):=((af hb5).1 _ _ yu).trans x0;clear hy)
        all_goals
         go_wp2_with fail
         go_meet
         first
          |exact⟨rfl,hb5⟩
          |exact⟨rfl,Uo hb5⟩
       case rest=>
       obtain⟨rfl,hbc⟩:=hcut;obtain⟨w3,rfl⟩:∃x,x=wc:=⟨_,rfl⟩
       have HX0:Hid (Below W0.heap.size W0 w3):=hd0 (HW2.out.trans (hbc.mono HW2.out.size));have KO:=hd0 hbc;have QG:Hid (Bk w3 lb 72 #[.int .i64 ((ak:Int)+1),.bool x.aol,.slice Ar x.rules.length cr]):=hd0 ((hbc.block _ yu).trans hbk);have zl:=QG.out.lt;clear hbc hbk e1 e2;have aj7:∀w',(Op.stringOp .add ⟨S2.toArray⟩ ⟨#[108,111,111,107,117,112,32]⟩).run Tryz.prog w'= .ok (.string ⟨(S2++[108,111,111,107,117,112,32]).toArray⟩) w':=au S2 [108,111,111,107,117,112,32] (by simp only[ay,ln];omega);have ajR:(S2++[108,111,111,107,117,112,32]).length<=S2.length+7:=ax _ _;generalize hT20:S2++[108,111,111,107,117,112,32]=T20 at*
       have abl:=hd0 hT20.symm;clear hT20;have aj9:∀w',(Op.stringOp .add ⟨T20.toArray⟩ ⟨DK.toArray⟩).run Tryz.prog w'= .ok (.string ⟨(T20++DK).toArray⟩) w':=au T20 DK (by omega);have akb:(T20++DK).length<=T20.length+DK.length:=ax _ _;generalize hT21:T20++DK=T21 at*
       have aaT:=hd0 hT21.symm;clear hT21;have g1:w3.cell? ⟨lb,1,none⟩=some (.bool x.aol):=QG.out.cell 1;have rm:∀w',(Op.stringOp .add ⟨T21.toArray⟩ ⟨#[32,105,103,110,111,114,101]⟩).run Tryz.prog w'= .ok (.string ⟨(T21++[32,105,103,110,111,114,101]).toArray⟩) w':=au T21 [32,105,103,110,111,114,101] (by simp only[ay,ln];omega)
       go_upto_if 163 with fail
       go_cut [3] from 132 to 185 (fun v5 wx=>v5= .string ⟨(T21++M).toArray⟩/\wx=w3)
       case first=>
        cases hig:x.aol with
        |true=>
         rw[hig] at hM g1;have eM:M=[32,105,103,110,111,114,101]:=hM.symm;go_wp2_with fail
         go_meet
         exact⟨by rw[eM],rfl⟩
        |false=>
         rw[hig] at hM g1;have eM:M=[]:=hM.symm;go_wp2_with fail
         go_meet
         exact⟨by rw[eM,aqR],rfl⟩
       case rest=>
       obtain⟨rfl,hwc⟩:=hcut;obtain⟨w4,rfl⟩:∃x,x=wc:=⟨_,rfl⟩
       subst hwc;clear hM rm g1;have ajT:∀w',(Op.stringOp .add ⟨T21.toArray⟩ ⟨M.toArray⟩).run Tryz.prog w'= .ok (.string ⟨(T21++M).toArray⟩) w':=au T21 M (by omega);have ai1:(T21++M).length<=T21.length+M.length:=ax _ _;generalize hT22:T21++M=T22 at*
       have aaE:=hd0 hT22.symm;clear hT22;have aj3:∀w',(Op.stringOp .add ⟨T22.toArray⟩ ⟨#[10]⟩).run Tryz.prog w'= .ok (.string ⟨(T22++[10]).toArray⟩) w':=au T22 [10] (by simp only[ay,ln];omega);have akI:(T22++[10]).length<=T22.length+1:=ax _ _;generalize hT23:T22++[10]=T23 at*
       have ab8:=hd0 hT23.symm;clear hT23;have q2:w4.cell? ⟨lb,2,none⟩=some (.slice Ar x.rules.length cr):=QG.out.cell 2;have ajP:=hd0 ((HSR.out.lw an7.ok (aiI.out)).lw an7.ok KO.out);go_wp2_with fail
       go_loopw [3,14] (fun s i wr=>∃j:Nat,j<=x.rules.length/\i= .int .i64 j/\s= .string ⟨(T23++(x.rules.take j).flatMap (qV f.anL x.kind)).toArray⟩/\Below w4.heap.size w4 wr) (fun _ i _=>x.rules.length - (intOf i).toNat)
       case atStart=>exact⟨0,nz _,rfl,by simp,aqk _ _⟩
       case round=>
        obtain⟨wi,rfl⟩:∃x,x=wr:=⟨_,rfl⟩
        obtain⟨j,hj,rfl,rfl,hb⟩:=hrel;have kN:Hid (Below w4.heap.size w4 wi):=hd0 hb;have fQ:Hid (Below W0.heap.size W0 wi):=hd0 (HX0.out.trans (hb.mono HX0.out.size));clear hb;clear q2;have q2:wi.cell? ⟨lb,2,none⟩=some (.slice Ar x.rules.length cr):=((af kN.out).1 _ _ zl).trans (QG.out.cell 2);by_cases hltj:j<x.rules.length
        ·
         obtain⟨b3,o3,y,B0,d0,B1,d1,B2,d2,B3,d3,B4,d4,rfl,-,hy,u0,u1,u2,u3,u4,u5,i5,t0,t1,t2,t3,t4⟩:=(ajP.out.lw an7.ok kN.out).rule hltj;have hrr:an7 wi (Lw wi) [.slice B0 y.back.length d0,.slice B1 y.in'.length d1,.slice B2 y.ahead.length d2,.slice B3 y.out.length d3,.slice B4 y.calls.length d4,.int .i64 y.x] y:=⟨B0,d0,B1,d1,B2,d2,B3,d3,B4,d4,rfl,i5,t0,t1,t2,t3,t4⟩
         have hro:=uy.out y (aqt hy.out);have hrs:=HRS.out y (aqt hy.out);have hjn:Hid (T23++(x.rules.take (j+1)).flatMap (qV f.anL x.kind)=T23++(x.rules.take j).flatMap (qV f.anL x.kind)++qV f.anL x.kind y):=by show _=_;rw[bg hy.out];simp[]
         have hf2:=bJ (f:=(qV f.anL x.kind)) hy.out;have hs2:(T23++(x.rules.take j).flatMap (qV f.anL x.kind)).length<=T23.length+((x.rules.take j).flatMap (qV f.anL x.kind)).length:=ax _ _;have HB1:=hd0 (aj (W:=wi) (fun w' hw'=>Xe (HF.out.lw fQ.out|>.lw hw') (an7.ok.mono (an7.ok.keep hrr (fun b hb'=>hw'.block b hb')) (fun b (hb':b<_)=>aqu hb' hw'.size)) HN.out hro hrs));clear hy hro hrs hrr t0 t1 t2 t3 t4 i5;generalize T23++(x.rules.take j).flatMap (qV f.anL x.kind)=S3 at*
         generalize qV f.anL x.kind y=DX at*
         rw[HKI.out] at HB1;have aiU:∀w',(Op.stringOp .add ⟨S3.toArray⟩ ⟨DX.toArray⟩).run Tryz.prog w'= .ok (.string ⟨(S3++DX).toArray⟩) w':=au S3 DX (by omega);have ai3:(S3++DX).length<=S3.length+DX.length:=ax _ _;generalize hT24:S3++DX=T24 at*
         have abf:=hd0 hT24.symm;clear hT24;have x0:∀xw:WIn (fun v=>Below wi.heap.size wi v),xw.w.cell? ⟨w.heap.size,0,none⟩=some (.int .i64 f.unit):=ae (((af fQ.out).1 _ _ z0).trans (HK.out.cell 0));have x1:∀xw:WIn (fun v=>Below wi.heap.size wi v),xw.w.cell? ⟨w.heap.size,1,none⟩=some (.slice A1 f.anL.length c1):=ae (((af fQ.out).1 _ _ z0).trans (HK.out.cell 1));have x2:∀xw:WIn (fun v=>Below wi.heap.size wi v),xw.w.cell? ⟨w.heap.size,2,none⟩=some (.slice A2 f.chars.length c2):=ae (((af fQ.out).1 _ _ z0).trans (HK.out.cell 2));have x3:∀xw:WIn (fun v=>Below wi.heap.size wi v),xw.w.cell? ⟨w.heap.size,3,none⟩=some (.slice (some ⟨b,o,none⟩) f.anM.length c3):=ae (((af fQ.out).1 _ _ z0).trans (HK.out.cell 3));have x4:∀xw:WIn (fun v=>Below wi.heap.size wi v),xw.w.cell? ⟨w.heap.size,4,none⟩=some (.slice A4 f.features.length c4):=ae (((af fQ.out).1 _ _ z0).trans (HK.out.cell 4));have x5:∀xw:WIn (fun v=>Below wi.heap.size wi v),xw.w.cell? ⟨w.heap.size,5,none⟩=some (.slice A5 f.anR.length c5):=ae (((af fQ.out).1 _ _ z0).trans (HK.out.cell 5));have x6:∀xw:WIn (fun v=>Below wi.heap.size wi v),xw.w.cell? ⟨w.heap.size,6,none⟩=some (.slice A6 f.regions.length c6):=ae (((af fQ.out).1 _ _ z0).trans (HK.out.cell 6));have x7:∀xw:WIn (fun v=>Below wi.heap.size wi v),xw.w.cell? ⟨w.heap.size,7,none⟩=some (.slice A7 f.funcs.length c7):=ae (((af fQ.out).1 _ _ z0).trans (HK.out.cell 7));have x8:∀xw:WIn (fun v=>Below wi.heap.size wi v),xw.w.cell? ⟨w.heap.size,8,none⟩=some (.slice A8 f.cvt.length c8):=ae (((af fQ.out).1 _ _ z0).trans (HK.out.cell 8));have v0:∀xw:WIn (fun v=>Below wi.heap.size wi v),xw.w.cell? ⟨lb,0,none⟩=some (.int .i64 ((ak:Int)+1)):=ae (((af kN.out).1 _ _ zl).trans (QG.out.cell 0));have v2:=ae q2;have k0:=ae u0;have k1:=ae u1;have k2:=ae u2;have k3:=ae u3;have k4:=ae u4;have k5:=ae u5;clear hf2 hs2 u0 u1 u2 u3 u4 u5;go_wp2_with fail
         refine aW (fun v=>Below wi.heap.size wi v) (by kernel_rfl) (by kernel_rfl) ((aqk wi.heap.size wi).drew) ?_;have aU:Nonempty (WIn (fun v=>Below wi.heap.size wi v)):=⟨⟨_,((aqk wi.heap.size wi).drew)⟩⟩
         repeat(go_big_quiet_step (first|with_reducible exact HB1.out _))
         refine wpQuiet_nil ?_;intro _ hw';obtain⟨xq,hw''⟩:=hw';subst hw'';have dY:Hid (Below w4.heap.size w4 xq.w):=hd0 (kN.out.trans (xq.ok.mono kN.out.size));generalize xq.w=wz at*
         go_wp2_with fail
         go_roundw
         case rel=>exact⟨j+1,by omega,by simp,by rw[hjn.out,abf.out],dY.out⟩
         case measure=>simp[intOf];omega
        obtain rfl:j=x.rules.length:=by omega
        rw[aqr];generalize hE1:T23++x.rules.flatMap (qV f.anL x.kind)=E1 at*
        have PW:=hd0 hE1.symm;clear hE1 hs0;go_wp2_with fail
        go_roundw
        case rel=>exact⟨k+1,by omega,by simp,by rw[hsn.out,PW.out,ab8.out,aaE.out,aaT.out,abl.out];simp,fQ.out⟩
        case measure=>simp[intOf];omega
      obtain rfl:k=f.anM.length:=by omega
      rw[aqr];have ak1:(Swl4++f.anM.flatMap (uF f.anL)).length<=Swl4.length+(f.anM.flatMap (uF f.anL)).length:=ax _ _;generalize hSwl5:Swl4++f.anM.flatMap (uF f.anL)=Swl5 at*
      have aha:=hd0 hSwl5.symm;clear hSwl5 hb;go_wp2_with fail
      go_loopw [3,15] (fun s i wr=>∃k:Nat,k<=f.anL.length/\i= .int .i64 k/\s= .string ⟨(Swl5++(f.anL.take k).flatMap (lu f.anL)).toArray⟩/\Below W0.heap.size W0 wr) (fun _ i _=>f.anL.length - (intOf i).toNat)
      case atStart=>exact⟨0,nz _,rfl,by simp,HX.out⟩
      case round=>
       obtain⟨jX,rfl⟩:∃x,x=wr:=⟨_,rfl⟩
       obtain⟨k,hk,rfl,rfl,hb⟩:=hrel;clear HX;have HX:=hd0 hb;have g1:jX.cell? ⟨w.heap.size,1,none⟩=some (.slice A1 f.anL.length c1):=((af HX.out).1 _ _ z0).trans (HK.out.cell 1);by_cases hlt:k<f.anL.length
       ·
        have hs0:(Swl5++(f.anL.take k).flatMap (lu f.anL)).length<=Swl5.length+((f.anL.take k).flatMap (lu f.anL)).length:=ax _ _;obtain⟨b,o,x,B3,d3,B4,d4,B5,d5,B6,d6,B7,d7,B8,d8,rfl,-,hx,q0,q1,q2,q3,q4,q5,q6,q7,q8,i1,t3,t4,t5,t6,t7,t8⟩:=(H1.out.lw anS.ok hb).anX hlt;have hx0:=HR.out.anL x (aqt hx.out);have hx1:=HS.out.anL.2 x (aqt hx.out);have hgr:anS jX (Lw jX) [.string ⟨x.name.toArray⟩,.int .i64 x.advance,.bool x.mark,.slice B3 x.points.length d3,.slice B4 x.ends.length d4,.slice B5 x.parts.length d5,.slice B6 x.anchors.length d6,.slice B7 x.deltas.length d7,.slice B8 x.hint.length d8] x:=⟨B3,d3,B4,d4,B5,d5,B6,d6,B7,d7,B8,d8,rfl,i1,t3,t4,t5,t6,t7,t8⟩
        have hsn:Hid (Swl5++(f.anL.take (k+1)).flatMap (lu f.anL)=Swl5++(f.anL.take k).flatMap (lu f.anL)++lu f.anL x):=by show _=_;rw[bg hx.out];simp[]
        have hf:=bJ (f:=(lu f.anL)) hx.out;have HB1:=hd0 (aj (W:=jX) (fun w' hw'=>X8 w' f [.int .i64 f.unit,.slice (some ⟨b,o,none⟩) f.anL.length c1,.slice A2 f.chars.length c2,.slice A3 f.anM.length c3,.slice A4 f.features.length c4,.slice A5 f.anR.length c5,.slice A6 f.regions.length c6,.slice A7 f.funcs.length c7,.slice A8 f.cvt.length c8] ((HF.out.lw hb).lw hw') x _ (anS.ok.mono (anS.ok.keep hgr (fun b hb'=>hw'.block b hb')) (fun b (hb':b<_)=>aqu hb' hw'.size)) hx0 ⟨by have:=hx1.pts;omega,by have:=hx1.ends;omega,by have:=hx1.parts;omega,by have:=hx1.anch;omega,by have:=hx1.an1;omega,by have:=hx1.hint;omega⟩ (nt (ul hx0.name) (by decide)) (fun q hq=>nt (xh HN.out (hx0.parts q hq).1) (by decide))));clear hx hx0 hx1 hb hgr t3 t4 t5 t6 t7 t8 i1;generalize Swl5++(f.anL.take k).flatMap (lu f.anL)=S2 at*
        generalize lu f.anL x=DX at*
        have ajo:∀w',(Op.stringOp .add ⟨S2.toArray⟩ ⟨DX.toArray⟩).run Tryz.prog w'= .ok (.string ⟨(S2++DX).toArray⟩) w':=au S2 DX (by omega);have akM:(S2++DX).length<=S2.length+DX.length:=ax _ _;generalize hT25:S2++DX=T25 at*
        have aag:=hd0 hT25.symm;clear hT25;have x0:∀xw:WIn (fun v=>Below jX.heap.size jX v),xw.w.cell? ⟨w.heap.size,0,none⟩=some (.int .i64 f.unit):=ae (((af HX.out).1 _ _ z0).trans (HK.out.cell 0));have x1:∀xw:WIn (fun v=>Below jX.heap.size jX v),xw.w.cell? ⟨w.heap.size,1,none⟩=some (.slice (some ⟨b,o,none⟩) f.anL.length c1):=ae (((af HX.out).1 _ _ z0).trans (HK.out.cell 1));have x2:∀xw:WIn (fun v=>Below jX.heap.size jX v),xw.w.cell? ⟨w.heap.size,2,none⟩=some (.slice A2 f.chars.length c2):=ae (((af HX.out).1 _ _ z0).trans (HK.out.cell 2));have x3:∀xw:WIn (fun v=>Below jX.heap.size jX v),xw.w.cell? ⟨w.heap.size,3,none⟩=some (.slice A3 f.anM.length c3):=ae (((af HX.out).1 _ _ z0).trans (HK.out.cell 3));have x4:∀xw:WIn (fun v=>Below jX.heap.size jX v),xw.w.cell? ⟨w.heap.size,4,none⟩=some (.slice A4 f.features.length c4):=ae (((af HX.out).1 _ _ z0).trans (HK.out.cell 4));have x5:∀xw:WIn (fun v=>Below jX.heap.size jX v),xw.w.cell? ⟨w.heap.size,5,none⟩=some (.slice A5 f.anR.length c5):=ae (((af HX.out).1 _ _ z0).trans (HK.out.cell 5));have x6:∀xw:WIn (fun v=>Below jX.heap.size jX v),xw.w.cell? ⟨w.heap.size,6,none⟩=some (.slice A6 f.regions.length c6):=ae (((af HX.out).1 _ _ z0).trans (HK.out.cell 6));have x7:∀xw:WIn (fun v=>Below jX.heap.size jX v),xw.w.cell? ⟨w.heap.size,7,none⟩=some (.slice A7 f.funcs.length c7):=ae (((af HX.out).1 _ _ z0).trans (HK.out.cell 7));have x8:∀xw:WIn (fun v=>Below jX.heap.size jX v),xw.w.cell? ⟨w.heap.size,8,none⟩=some (.slice A8 f.cvt.length c8):=ae (((af HX.out).1 _ _ z0).trans (HK.out.cell 8));have v0:=ae q0;have v1:=ae q1;have v2:=ae q2;have v3:=ae q3;have v4:=ae q4;have v5:=ae q5;have v6:=ae q6;have v7:=ae q7;have v8:=ae q8;clear q0 q1 q2 q3 q4 q5 q6 q7 q8 hf hs0;go_wp2_with fail
        refine aW (fun v=>Below jX.heap.size jX v) (by kernel_rfl) (by kernel_rfl) ((aqk jX.heap.size jX).drew) ?_;have aU:Nonempty (WIn (fun v=>Below jX.heap.size jX v)):=⟨⟨_,((aqk jX.heap.size jX).drew)⟩⟩
        repeat(go_big_quiet_step (first|with_reducible exact HB1.out _))
        refine wpQuiet_nil ?_;intro _ hw';obtain⟨xq,hw''⟩:=hw';subst hw'';have dY:Hid (Below W0.heap.size W0 xq.w):=hd0 (HX.out.trans (xq.ok.mono HX.out.size));generalize xq.w=wz at*
        go_wp2_with fail
        go_roundw
        case rel=>exact⟨k+1,by omega,by simp,by rw[hsn.out,aag.out],dY.out⟩
        case measure=>simp[intOf];omega
       obtain rfl:k=f.anL.length:=by omega
       rw[aqr];have alD:(Swl5++f.anL.flatMap (lu f.anL)).length<=Swl5.length+(f.anL.flatMap (lu f.anL)).length:=ax _ _;generalize hSwl6:Swl5++f.anL.flatMap (lu f.anL)=Swl6 at*
       have ah0:=hd0 hSwl6.symm;clear hSwl6 hb;go_wp2_with fail
       go_loopw [3,16] (fun s i wr=>∃k:Nat,k<=f.chars.length/\i= .int .i64 k/\s= .string ⟨(Swl6++(f.chars.take k).flatMap (vw f.anL)).toArray⟩/\Below W0.heap.size W0 wr) (fun _ i _=>f.chars.length - (intOf i).toNat)
       case atStart=>exact⟨0,nz _,rfl,by simp,HX.out⟩
       case round=>
        obtain⟨kR,rfl⟩:∃x,x=wr:=⟨_,rfl⟩
        obtain⟨k,hk,rfl,rfl,hb⟩:=hrel;clear HX;have HX:=hd0 hb;have g2:kR.cell? ⟨w.heap.size,2,none⟩=some (.slice A2 f.chars.length c2):=((af HX.out).1 _ _ z0).trans (HK.out.cell 2);by_cases hlt:k<f.chars.length
        ·
         have hs0:(Swl6++(f.chars.take k).flatMap (vw f.anL)).length<=Swl6.length+((f.chars.take k).flatMap (vw f.anL)).length:=ax _ _;obtain⟨b,o,x,rfl,-,hx,q0,q1,-⟩:=(H2.out.lw aop.ok hb).chr hlt;obtain⟨hx0,hx1⟩:=HR.out.chars x (aqt hx.out);have hsn:Hid (Swl6++(f.chars.take (k+1)).flatMap (vw f.anL)=Swl6++(f.chars.take k).flatMap (vw f.anL)++[99,104,97,114]++dB x.rune++fU f.anL x.anX++[10]):=by show _=_;rw[bg hx.out];simp[vw,rF]
         have hf:=bJ (f:=(vw f.anL)) hx.out;simp only[vw,az,ay,ln] at hf;have HB1:=hd0 (aj (W:=kR) (fun w' _=>iy w' x.rune hx0));have HB0:=hd0 (aj (W:=kR) (fun w' hw'=>zD w' f [.int .i64 f.unit,.slice A1 f.anL.length c1,.slice (some ⟨b,o,none⟩) f.chars.length c2,.slice A3 f.anM.length c3,.slice A4 f.features.length c4,.slice A5 f.anR.length c5,.slice A6 f.regions.length c6,.slice A7 f.funcs.length c7,.slice A8 f.cvt.length c8] ((HF.out.lw hb).lw hw') x.anX hx1 (nt (xh HN.out hx1) (by decide))));clear hx hx0 hx1 hb;generalize Swl6++(f.chars.take k).flatMap (vw f.anL)=S2 at*
         generalize dB x.rune=DX at*
         generalize fU f.anL x.anX=DN at*
         have aji:∀w',(Op.stringOp .add ⟨S2.toArray⟩ ⟨#[99,104,97,114]⟩).run Tryz.prog w'= .ok (.string ⟨(S2++[99,104,97,114]).toArray⟩) w':=au S2 [99,104,97,114] (by simp only[ay,ln];omega);have ai4:(S2++[99,104,97,114]).length<=S2.length+4:=ax _ _;generalize hT26:S2++[99,104,97,114]=T26 at*
         have aaF:=hd0 hT26.symm;clear hT26;have ajm:∀w',(Op.stringOp .add ⟨T26.toArray⟩ ⟨DX.toArray⟩).run Tryz.prog w'= .ok (.string ⟨(T26++DX).toArray⟩) w':=au T26 DX (by omega);have ajj:(T26++DX).length<=T26.length+DX.length:=ax _ _;generalize hT27:T26++DX=T27 at*
         have aas:=hd0 hT27.symm;clear hT27;have aid:∀w',(Op.stringOp .add ⟨T27.toArray⟩ ⟨DN.toArray⟩).run Tryz.prog w'= .ok (.string ⟨(T27++DN).toArray⟩) w':=au T27 DN (by omega);have ajx:(T27++DN).length<=T27.length+DN.length:=ax _ _;generalize hT28:T27++DN=T28 at*
         have aaV:=hd0 hT28.symm;clear hT28;have ajN:∀w',(Op.stringOp .add ⟨T28.toArray⟩ ⟨#[10]⟩).run Tryz.prog w'= .ok (.string ⟨(T28++[10]).toArray⟩) w':=au T28 [10] (by simp only[ay,ln];omega);have ajz:(T28++[10]).length<=T28.length+1:=ax _ _;generalize hT29:T28++[10]=T29 at*
         have abI:=hd0 hT29.symm;clear hT29;have x0:∀xw:WIn (fun v=>Below kR.heap.size kR v),xw.w.cell? ⟨w.heap.size,0,none⟩=some (.int .i64 f.unit):=ae (((af HX.out).1 _ _ z0).trans (HK.out.cell 0));have x1:∀xw:WIn (fun v=>Below kR.heap.size kR v),xw.w.cell? ⟨w.heap.size,1,none⟩=some (.slice A1 f.anL.length c1):=ae (((af HX.out).1 _ _ z0).trans (HK.out.cell 1));have x2:∀xw:WIn (fun v=>Below kR.heap.size kR v),xw.w.cell? ⟨w.heap.size,2,none⟩=some (.slice (some ⟨b,o,none⟩) f.chars.length c2):=ae (((af HX.out).1 _ _ z0).trans (HK.out.cell 2));have x3:∀xw:WIn (fun v=>Below kR.heap.size kR v),xw.w.cell? ⟨w.heap.size,3,none⟩=some (.slice A3 f.anM.length c3):=ae (((af HX.out).1 _ _ z0).trans (HK.out.cell 3));have x4:∀xw:WIn (fun v=>Below kR.heap.size kR v),xw.w.cell? ⟨w.heap.size,4,none⟩=some (.slice A4 f.features.length c4):=ae (((af HX.out).1 _ _ z0).trans (HK.out.cell 4));have x5:∀xw:WIn (fun v=>Below kR.heap.size kR v),xw.w.cell? ⟨w.heap.size,5,none⟩=some (.slice A5 f.anR.length c5):=ae (((af HX.out).1 _ _ z0).trans (HK.out.cell 5));have x6:∀xw:WIn (fun v=>Below kR.heap.size kR v),xw.w.cell? ⟨w.heap.size,6,none⟩=some (.slice A6 f.regions.length c6):=ae (((af HX.out).1 _ _ z0).trans (HK.out.cell 6));have x7:∀xw:WIn (fun v=>Below kR.heap.size kR v),xw.w.cell? ⟨w.heap.size,7,none⟩=some (.slice A7 f.funcs.length c7):=ae (((af HX.out).1 _ _ z0).trans (HK.out.cell 7));have x8:∀xw:WIn (fun v=>Below kR.heap.size kR v),xw.w.cell? ⟨w.heap.size,8,none⟩=some (.slice A8 f.cvt.length c8):=ae (((af HX.out).1 _ _ z0).trans (HK.out.cell 8));have v0:=ae q0;have v1:=ae q1;clear q0 q1 hf hs0;go_wp2_with fail
         refine aW (fun v=>Below kR.heap.size kR v) (by kernel_rfl) (by kernel_rfl) ((aqk kR.heap.size kR).drew) ?_;have aU:Nonempty (WIn (fun v=>Below kR.heap.size kR v)):=⟨⟨_,((aqk kR.heap.size kR).drew)⟩⟩
         repeat(go_big_quiet_step (first|with_reducible exact HB0.out _|with_reducible exact HB1.out _))
         refine wpQuiet_nil ?_;intro _ hw';obtain⟨xq,hw''⟩:=hw';subst hw'';have dY:Hid (Below W0.heap.size W0 xq.w):=hd0 (HX.out.trans (xq.ok.mono HX.out.size));generalize xq.w=wz at*
         go_wp2_with fail
         go_roundw
         case rel=>exact⟨k+1,by omega,by simp,by rw[hsn.out,abI.out,aaV.out,aas.out,aaF.out],dY.out⟩
         case measure=>simp[intOf];omega
        obtain rfl:k=f.chars.length:=by omega
        rw[aqr];have alp:(Swl6++f.chars.flatMap (vw f.anL)).length<=Swl6.length+(f.chars.flatMap (vw f.anL)).length:=ax _ _;generalize hSwl7:Swl6++f.chars.flatMap (vw f.anL)=Swl7 at*
        have ahi:=hd0 hSwl7.symm;clear hSwl7 hb;go_wp2_with fail
        go_loopw [3,17] (fun s i wr=>∃k:Nat,k<=f.features.length/\i= .int .i64 k/\s= .string ⟨(Swl7++(f.features.take k).flatMap uU).toArray⟩/\Below W0.heap.size W0 wr) (fun _ i _=>f.features.length - (intOf i).toNat)
        case atStart=>exact⟨0,nz _,rfl,by simp,HX.out⟩
        case round=>
         obtain⟨lJ,rfl⟩:∃x,x=wr:=⟨_,rfl⟩
         obtain⟨k,hk,rfl,rfl,hb⟩:=hrel;clear HX;have HX:=hd0 hb;have g4:lJ.cell? ⟨w.heap.size,4,none⟩=some (.slice A4 f.features.length c4):=((af HX.out).1 _ _ z0).trans (HK.out.cell 4);by_cases hlt:k<f.features.length
         ·
          have hs0:(Swl7++(f.features.take k).flatMap uU).length<=Swl7.length+((f.features.take k).flatMap uU).length:=ax _ _;obtain⟨b,o,x,At,ct,rfl,-,hx,q0,q1,st⟩:=(H4.out.lw anU.ok hb).apk hlt;have hxr:=(HR.out.an3 x (aqt hx.out)).2;have zt:=HS.out.an3.2 x (aqt hx.out);have hsn:Hid (Swl7++(f.features.take (k+1)).flatMap uU=Swl7++(f.features.take k).flatMap uU++[102,101,97,116,117,114,101,32]++x.name++x.anM.flatMap dB++[10]):=by show _=_;rw[bg hx.out];simp[uU,jo]
          have hf:=bJ (f:=uU) hx.out;simp only[uU,az,ay,ln] at hf;have HST:=hd0 st;have HXR:=hd0 hxr;have HX0:=HX;have zb:=World.block_lt_of_cell? _ _ q1;have q1l:=hd0 q1;clear hx hxr st hb;generalize Swl7++(f.features.take k).flatMap uU=S2 at*
          have aik:∀w',(Op.stringOp .add ⟨S2.toArray⟩ ⟨#[102,101,97,116,117,114,101,32]⟩).run Tryz.prog w'= .ok (.string ⟨(S2++[102,101,97,116,117,114,101,32]).toArray⟩) w':=au S2 [102,101,97,116,117,114,101,32] (by simp only[ay,ln];omega);have aiH:(S2++[102,101,97,116,117,114,101,32]).length<=S2.length+8:=ax _ _;generalize hT30:S2++[102,101,97,116,117,114,101,32]=T30 at*
          have abY:=hd0 hT30.symm;clear hT30;have anw:∀w',(Op.stringOp .add ⟨T30.toArray⟩ ⟨x.name.toArray⟩).run Tryz.prog w'= .ok (.string ⟨(T30++x.name).toArray⟩) w':=au T30 x.name (by omega);have al0:(T30++x.name).length<=T30.length+x.name.length:=ax _ _;generalize hT31:T30++x.name=T31 at*
          have aky:=hd0 hT31.symm;clear hT31;go_wp2_with fail
          go_loopw [3,18] (fun s i wr=>∃j:Nat,j<=x.anM.length/\i= .int .i64 j/\s= .string ⟨(T31++(x.anM.take j).flatMap dB).toArray⟩/\Below lJ.heap.size lJ wr) (fun _ i _=>x.anM.length - (intOf i).toNat)
          case atStart=>exact⟨0,nz _,rfl,by simp,aqk _ _⟩
          case round=>
           obtain⟨wi,rfl⟩:∃x,x=wr:=⟨_,rfl⟩
           obtain⟨j,hj,rfl,rfl,hb⟩:=hrel;have kN:Hid (Below lJ.heap.size lJ wi):=hd0 hb;have fQ:Hid (Below W0.heap.size W0 wi):=hd0 (HX0.out.trans (hb.mono HX0.out.size));clear hb;clear g4 q0 q1;have g4:wi.cell? ⟨w.heap.size,4,none⟩=some (.slice (some ⟨b,o,none⟩) f.features.length c4):=((af fQ.out).1 _ _ z0).trans (HK.out.cell 4);have q1:wi.cell? ⟨b,o+k*2+1,none⟩=some (.slice At x.anM.length ct):=((af kN.out).1 _ _ zb).trans q1l.out;by_cases hltj:j<x.anM.length
           ·
            obtain⟨b3,o3,y,rfl,-,hy,u0,-⟩:=(HST.out.lw anO.ok kN.out).int hltj;have hy0:=HXR.out y (aqt hy.out);have hjn:Hid (T31++(x.anM.take (j+1)).flatMap dB=T31++(x.anM.take j).flatMap dB++dB y):=by show _=_;rw[bg hy.out];simp[]
            have hf2:=bJ (f:=dB) hy.out;have hs2:(T31++(x.anM.take j).flatMap dB).length<=T31.length+((x.anM.take j).flatMap dB).length:=ax _ _;have HB0:=hd0 (fun w'=>iy w' y hy0);clear hy hy0;generalize T31++(x.anM.take j).flatMap dB=S3 at*
            generalize dB y=DX at*
            have amX:∀w',(Op.stringOp .add ⟨S3.toArray⟩ ⟨DX.toArray⟩).run Tryz.prog w'= .ok (.string ⟨(S3++DX).toArray⟩) w':=au S3 DX (by omega);have amD:(S3++DX).length<=S3.length+DX.length:=ax _ _;generalize hT32:S3++DX=T32 at*
            have akz:=hd0 hT32.symm;clear hT32;clear hf2 hs2;go_wp2_with fail
            refine(HB0.out wi).mono ?_;rintro e wz ⟨rfl,hbz⟩;have dY:Hid (Below lJ.heap.size lJ wz):=hd0 (kN.out.trans (hbz.mono kN.out.size));clear hbz;go_wp2_with fail
            go_roundw
            case rel=>exact⟨j+1,by omega,by simp,by rw[hjn.out,akz.out],dY.out⟩
            case measure=>simp[intOf];omega
           obtain rfl:j=x.anM.length:=by omega
           rw[aqr];have lE1:(T31++x.anM.flatMap dB).length<=T31.length+(x.anM.flatMap dB).length:=ax _ _;generalize hE1:T31++x.anM.flatMap dB=E1 at*
           have PW:=hd0 hE1.symm;clear hE1;have anF:∀w',(Op.stringOp .add ⟨E1.toArray⟩ ⟨#[10]⟩).run Tryz.prog w'= .ok (.string ⟨(E1++[10]).toArray⟩) w':=au E1 [10] (by simp only[ay,ln];omega);have am7:(E1++[10]).length<=E1.length+1:=ax _ _;generalize hT33:E1++[10]=T33 at*
           have ajH:=hd0 hT33.symm;clear hT33;clear hs0 hf;go_wp2_with fail
           go_roundw
           case rel=>exact⟨k+1,by omega,by simp,by rw[hsn.out,ajH.out,PW.out,aky.out,abY.out],fQ.out⟩
           case measure=>simp[intOf];omega
         obtain rfl:k=f.features.length:=by omega
         rw[aqr];have alm:(Swl7++f.features.flatMap uU).length<=Swl7.length+(f.features.flatMap uU).length:=ax _ _;generalize hSwl8:Swl7++f.features.flatMap uU=Swl8 at*
         have ahk:=hd0 hSwl8.symm;clear hSwl8 hb;have hfin:Hid (Aw f=Swl8):=hd0 (by rw[hsl.out,ahk.out,ahi.out,ah0.out,aha.out,ahv.out,ahp.out,ag5.out,ahq.out,HT2.out,HT1.out]);go_wp2_with fail
         go_ret
         exact⟨by rw[hfin.out];rfl,HW.out.trans (HX.out.mono HW.out.size)⟩
end Go.Proofs.YtkijckccfookeaaGreatDoor
